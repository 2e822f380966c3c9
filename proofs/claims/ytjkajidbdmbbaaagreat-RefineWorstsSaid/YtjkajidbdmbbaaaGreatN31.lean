import Derived.Test.YtjkajidbdmbbaaaGreatN30
import Derived.Test.YtjkajidbdmbbaaaGreatN29
import Derived.Test.YtjkajidbdmbbaaaGreatN02
set_option linter.unusedSimpArgs false
set_option linter.unusedVariables false
set_option maxRecDepth 100000
set_option maxHeartbeats 16000000
open Go.Proofs.Tryz
namespace Go.Proofs.YtjkajidbdmbbaaaGreat
open Ref Rn Wd Ir Rf
variable {args:Array Value}{c:Cfg}{x:Ins}{y z:Int}{mem:List (List Int)}{bs l zs:List Int}{ns:List Nat}{vms:List Value}{B a bj bl i k vb:Nat}{D D':Nat->Prop}{P:Program}{t t2:TypeId}{v vm vx:Value}{w w':World}
section
open Go.RowKit
def fm:List Int->Int
 | []=>0
 | x::r=>if x=0 then fm r else x
namespace Rn
def Oc (a b:zO):List Int:=[CU a.kind b.kind,CU (Gm a.ret.p) (Gm b.ret.p),CU a.ret.s b.ret.s,CU a.ret.n b.ret.n,Da a.mem b.mem]
theorem Ny (a b:zO):fm (Oc a b)=BJ a b:=by
 unfold Oc BJ Dh;simp only[fm,AL]
 repeat' split
 all_goals first
  | rfl
  | contradiction
  | omega
end Rn
theorem wF (hv:IntsAt B w v zs) :
  Calls prog 119 #[v] w (RT (.int .i64 (fm zs)) w):=by
 obtain⟨A,ca,rfl,y,z,a3⟩:=hv;obtain⟨R,m⟩:=xJ (fm zs);have t:=dJ m;rw[m];clear m
 go_enter func119, ntmps119
 go_wp2
 go_loop [8] (fun p=>∃k:Nat,k<=zs.length/\p=.int .i64 (k:Int)/\Hid (fm (zs.drop k)=R)) (fun p=>zs.length-(intOf p).toNat)
 case atStart=>exact⟨0,yI _,rfl,t⟩
 case round =>
  obtain⟨k,E,rfl,g⟩:=hrel;by_cases d:k<zs.length
  ·obtain⟨x,j⟩:∃x,zs[k]?=some x:=⟨_,xR d⟩;obtain⟨C,F,rfl,-,a4⟩:=a3 (by omega);have D:=a4 k x j
   have q:Hid ((if x=0 then fm (zs.drop (k+1)) else x)=R):=by
    show _=_;have u:zs.drop k=x::zs.drop (k+1):=by rw[yg d];congr 1;rw[xR d]at j;injection j
    have:=g.out;rw[u,fm]at this;exact this
   clear j a3 a4 g;by_cases r:x=0
   ·subst r;go_wp2;go_round;case rel=>exact⟨k+1,by omega,by go_num,by (show _=_);have:=q.out;simpa using this⟩
    case measure=>simp[intOf];omega
   ·have l:Hid (R=x):=by show _=_;have:=q.out;rw[yt r]at this;exact this.symm
    go_wp2;go_ret;exact⟨dg l.out.symm,rfl⟩
  ·obtain rfl:k=zs.length:=by omega
   have l:Hid (R=0):=by show _=_;have:=g.out;rw[yj (yJ zs.length),fm]at this;exact this.symm
   clear a3 g;go_wp2;go_ret;exact⟨dg l.out.symm,rfl⟩
theorem rJ (a b:Bool)(w:World):Calls prog 121 #[.bool a,.bool b] w (RT (.int .i64 (CU (Gm a) (Gm b))) w):=by
 cases a<;>cases b
 all_goals
  go_enter func121, ntmps121
  go_wp2;go_ret;exact⟨dg (by decide),rfl⟩
def eW (o:zO)(vm:Value):Value:=.agg #[.int .i64 o.kind,.bool o.ret.p,.int .i64 o.ret.s,.int .u32 o.ret.n,vm]
def fO (w:World)(o:zO)(vm:Value):World:=w.alloc (.cells #[.int .i64 o.kind,.bool o.ret.p,.int .i64 o.ret.s,.int .u32 o.ret.n,vm] 27)
theorem dz {o:zO}(g:Gr (fO w o vm) w') :
  w'.cell? ⟨w.heap.size,0,none⟩=some (.int .i64 o.kind)/\w'.cell? ⟨w.heap.size,1,none⟩=some (.bool o.ret.p)/\w'.cell? ⟨w.heap.size,2,none⟩=some (.int .i64 o.ret.s)/\w'.cell? ⟨w.heap.size,3,none⟩=some (.int .u32 o.ret.n)/\w'.cell? ⟨w.heap.size,4,none⟩=some vm :=
 ⟨df _ _ 0 g rfl,df _ _ 1 g rfl,df _ _ 2 g rfl,df _ _ 3 g rfl,df _ _ 4 g rfl⟩
theorem dZ {f:FuncId}(h:Calls P f args w (RT v w)):Calls P f args w (RG v w) :=
 h.mono fun _ _ q=>⟨q.1,by rw[q.2];exact yO _⟩
theorem wX {d1 d2 d3 d4 d5:Int}:IntsAt (w.alloc (.cells #[.int .i64 d1,.int .i64 d2,.int .i64 d3,.int .i64 d4,.int .i64 d5] t)).heap.size (w.alloc (.cells #[.int .i64 d1,.int .i64 d2,.int .i64 d3,.int .i64 d4,.int .i64 d5] t)) (.slice (some ⟨w.heap.size,0,none⟩) 5 5) [d1,d2,d3,d4,d5]:=by
 refine⟨_,_,rfl,yJ 5,by show 5<=17592186044416;decide,fun _=>⟨w.heap.size,0,rfl,by simp,fun j z hz=>?_⟩⟩;rw[yo _ _ _ _ _ _ (heap_alloc_new w _)]
 match j,hz with
 | 0,hz=>simp at hz;subst hz;rfl
 | 1,hz=>simp at hz;subst hz;rfl
 | 2,hz=>simp at hz;subst hz;rfl
 | 3,hz=>simp at hz;subst hz;rfl
 | 4,hz=>simp at hz;subst hz;rfl
theorem mC {a b:zO}{va vb:Value}(ha:TabAt B w va a.mem)(hb:TabAt B w vb b.mem)(hB:B<=w.heap.size) :
  Calls prog 82 #[eW a va,eW b vb] w (RG (.int .i64 (BJ a b)) w):=by
 obtain⟨g,d⟩:=xJ (fO w a va);obtain⟨W,y⟩:=xJ (fO g b vb);have r:Gr w g:=by rw[<-d];exact(yO w).alloc _
 have q:Gr g W:=by rw[<-y];exact(yO g).alloc _
 have U:g.heap.size=w.heap.size+1:=by rw[<-d];unfold fO;simp
 have j:=fun(u:GrW W)=>dz (w:=w) (o:=a) (vm:=va) (w':=u.val) (by rw[d];exact q.trans u.gr);have l:=fun(u:GrW W)=>dz (w:=g) (o:=b) (vm:=vb) (w':=u.val) (by rw[y];exact u.gr);have A:=fun u=>(j u).1;have C:=fun u=>(j u).2.1;have D:=fun u=>(j u).2.2.1;have E:=fun u=>(j u).2.2.2.1;have F:=fun u=>(j u).2.2.2.2;have B0:=fun u=>(l u).1;have G:=fun u=>(l u).2.1;have H:=fun u=>(l u).2.2.1;have I:=fun u=>(l u).2.2.2.1;have J:=fun u=>(l u).2.2.2.2;have K:=dJ fun(u:GrW W)=>dZ (ko a.kind b.kind u.val);have L:=dJ fun(u:GrW W)=>dZ (rJ a.ret.p b.ret.p u.val);have M:=dJ fun(u:GrW W)=>dZ (ko a.ret.s b.ret.s u.val);have N:=dJ fun(u:GrW W)=>dZ (tr a.ret.n b.ret.n u.val);have O:=dJ fun(u:GrW W)=>dZ (oN (w:=u.val) (ha.below (Below.mono ((r.trans q).trans u.gr) hB)) (hb.below (Below.mono ((r.trans q).trans u.gr) hB)))
 have T:Hid (∀m:World,Calls prog 119 #[.slice (some ⟨m.heap.size,0,none⟩) 5 5] (m.alloc (.cells #[.int .i64 (CU a.kind b.kind),.int .i64 (CU (Gm a.ret.p) (Gm b.ret.p)),.int .i64 (CU a.ret.s b.ret.s),.int .i64 (CU a.ret.n b.ret.n),.int .i64 (Da a.mem b.mem)] 3)) fun e w'=>e=.returned (.int .i64 (BJ a b))/\w'=(m.alloc (.cells #[.int .i64 (CU a.kind b.kind),.int .i64 (CU (Gm a.ret.p) (Gm b.ret.p)),.int .i64 (CU a.ret.s b.ret.s),.int .i64 (CU a.ret.n b.ret.n),.int .i64 (Da a.mem b.mem)] 3))):=fun m=>by
  have:=wF (wX (w:=m) (d1:=CU a.kind b.kind) (d2:=CU (Gm a.ret.p) (Gm b.ret.p)) (d3:=CU a.ret.s b.ret.s) (d4:=CU a.ret.n b.ret.n) (d5:=Da a.mem b.mem) (t:=3))
  rwa [show [CU a.kind b.kind,CU (Gm a.ret.p) (Gm b.ret.p),CU a.ret.s b.ret.s,CU a.ret.n b.ret.n,Da a.mem b.mem]=Oc a b from rfl,Ny]at this
 have S:=dJ (r.trans q);obtain⟨Y,ca,rfl,-,-,-⟩:=ha;obtain⟨Z,cb,rfl,-,-,-⟩:=hb;generalize CU a.kind b.kind=d1 at *;generalize CU (Gm a.ret.p) (Gm b.ret.p)=d2 at *;generalize CU a.ret.s b.ret.s=d3 at *;generalize CU a.ret.n b.ret.n=d4 at *;generalize Da a.mem b.mem=d5 at *;generalize BJ a b=R at *;clear j l U r q;unfold fO at d y;unfold eW
 go_enter func82, ntmps82
 go_wp2;refine dC 31 (by kernel_rfl) (by kernel_rfl) ?_;simp only[yA,List.take_zero,yD,List.drop_zero]
 repeat (go_big_quiet_step (first|(rename_i u;go_at_call 120;with_reducible exact dk u (K.out u))|(rename_i u;go_at_call 120;with_reducible exact dk u (M.out u))|(rename_i u;go_at_call 121;exact dk u (L.out u))|(rename_i u;go_at_call 122;exact dk u (N.out u))|(rename_i u;go_at_call 123;exact dk u (O.out u))))
 refine wpQuiet_nil ?_;intro m z;obtain⟨X,rfl⟩:=z;have Q:=dJ X.gr;clear A C D E F B0 G H I J;go_wp2_with (go_at_call 119;refine(T.out _).mono ?_;rintro e w8 ⟨rfl,rfl⟩);go_ret;exact⟨rfl,(S.out.trans Q.out).alloc _⟩
theorem vj {n:Nat}{xs ys:List Value}(h:w.ownsRow B 27 5 v n xs)(hB:B<=w.heap.size)(hn:n<=1000)(hi:i<=n)(hy:ys.length=5)(hyb:w.heap[vb]?=some (.cells ys.toArray t2 (0,0)))(hvb:v.ownBlock≠some vb)(h1:∀y∈ys,y.oneCell'=true)(hx1:∀y∈xs,y.oneCell'=true) :
  Calls prog 83 #[v,.int .i64 i,.slice (some ⟨vb,0,none⟩) 1 1] w fun e w'=>∃A c,e=.returned (.slice A (n+1) c)/\w'.ownsRow B 27 5 (.slice A (n+1) c) (n+1) (xs.take (i*5)++ys++xs.drop (i*5))/\FrS (fun k=>v.ownBlock=some k) w w'/\∀k,(Value.slice A (n+1) c).ownBlock=some k->v.ownBlock=some k\/w.heap.size<=k:=by
 have l:∀j u,ys[j]?=some u->w.cell? ⟨vb,j,none⟩=some u:=fun j u hj=>by rw[yo _ _ _ _ _ _ hyb];simpa using hj
 have I:xs.length=n*5:=h.1;rcases yw i n with g|H
 ·obtain⟨A,c,rfl,J,G,p⟩:=dE h
  cases A with
  | none=>have:=p rfl;omega
  | some a =>
   obtain⟨D,E,a3,a4⟩:=G a rfl;obtain⟨b,o,s⟩:=a;dsimp only at D E a3 a4;subst a3;subst a4;rcases yw n c with q|q
   ·refine(rl h hB hn g q hy hyb (fun e=>hvb (by rw[e];rfl)) h1 hx1).mono fun e w' r=>⟨_,_,r.1,r.2.1,r.2.2.mono fun k d=>by rw[d];rfl,fun k d=>.inl d⟩
   ·obtain rfl:c=n:=by omega
    exact(tH h hB hn g hy l h1 hx1).mono fun e w' ⟨A,F,m,t,z,C⟩=>⟨A,F,m,t,z.mono fun k d=>d.elim,fun k d=>.inr (C k d)⟩
 ·obtain rfl:i=n:=by omega
  refine(vr h hB hn hy l h1).mono fun e w' ⟨A,c,m,t,z,C⟩=>⟨A,c,m,?_,(FrS.refl _ w).grown z (fun k d=>.inl d),C⟩;rw[yh (by omega),yj (by omega),List.append_nil];exact t
def kU (o:zO)(vm:Value):List Value:=[.int .i64 o.kind,.bool o.ret.p,.int .i64 o.ret.s,.int .u32 o.ret.n,vm]
def dP:List zO->List Value->List Value
 | o::os,v::vs=>kU o v++dP os vs
 | _,_=>[]
theorem gD:∀(os:List zO)(vs:List Value)(j t:Nat)(o:zO)(v:Value),os[j]?=some o->vs[j]?=some v->t<5->(dP os vs)[j*5+t]?=(kU o v)[t]?
 | [],_,j,t,o,v,h,_,_=>by simp at h
 | _::_,[],j,t,o,v,_,h,_=>by simp at h
 | o'::os,v'::vs,0,t,o,v,h1,h2,ht=>by
  simp at h1 h2;subst h1;subst h2
  rw[dP,Nat.zero_mul,Nat.zero_add,yd (by show t<5;exact ht)]
 | o'::os,v'::vs,j+1,t,o,v,h1,h2,ht=>by
  rw[dP,ye (by show 5<=_;omega)]
  rw[show (j+1)*5+t-(kU o' v').length=j*5+t by show _-5=_;omega]
  exact gD os vs j t o v (by simpa using h1) (by simpa using h2) ht
theorem fE:∀(os os':List zO)(vs vs':List Value),vs.length=os.length->dP (os++os') (vs++vs')=dP os vs++dP os' vs'
 | [],os',[],vs',_=>rfl
 | o::os,os',v::vs,vs',h=>by
  have:=fE os os' vs vs' (by simpa using h)
  simp only[List.cons_append,dP,this,List.append_assoc]
 | [],_,_::_,_,h=>by simp at h
 | _::_,_,[],_,h=>by simp at h
def RowsIn (D:Nat->Prop)(w:World)(vm:Value)(ns:List Nat):Prop :=
 ∃(A:Option Addr)(c:Nat),vm=.slice A ns.length c/\ns.length<=c/\(0<ns.length->∃(Bm:Nat)(row:Array Value),A=some ⟨Bm,0,none⟩/\D Bm/\w.heap[Bm]?=some (.cells row 33 (0,0)) /\
   ∀(j n:Nat),ns[j]?=some n->∃(b cp:Nat)(cur:Array Value),row[j]?=some (.slice (some ⟨b,0,none⟩) n cp)/\n<=cp/\D b/\w.heap[b]?=some (.cells cur 3 (0,0))/\∀i,i<n->∃z,cur[i]?=some (.int .i64 z))
theorem RowsIn.more (h:RowsIn D w vm ns)(hD:∀k,D k->D' k):RowsIn D' w vm ns:=by obtain⟨A,c,e,t,r⟩:=h;refine⟨A,c,e,t,fun y=>?_⟩;obtain⟨Bm,row,l,m,p,q⟩:=r y;refine⟨Bm,row,l,hD _ m,p,fun j n u=>?_⟩;obtain⟨b,g,d,z,B,C,E⟩:=q j n u;exact⟨b,g,d,z,B,hD _ C,E⟩
def Keeps (D:Nat->Prop)(w:World)(vm:Value)(mem:List (List Int)):Prop:=(∀k,D k->k<w.heap.size)/\(∃A c,vm=.slice A mem.length c)/\∀w':World,(∀k,D k->w'.heap[k]?=w.heap[k]?)->w.heap.size<=w'.heap.size->TabAt w'.heap.size w' vm mem/\RowsIn D w' vm (mem.map List.length)
theorem Keeps.frs {S:Nat->Prop}(h:Keeps D w vm mem)(hF:FrS S w w')(hS:∀k,D k->¬S k):Keeps D w' vm mem :=
 ⟨fun k d=>by have:=h.1 k d;have:=hF.size;omega,h.2.1,fun j g l=>h.2.2 j (fun k d=>(g k d).trans (hF.block k (h.1 k d) (hS k d))) (by have:=hF.size;omega)⟩
theorem Keeps.tab (h:Keeps D w vm mem):TabAt w.heap.size w vm mem:=(h.2.2 w (fun _ _=>rfl) (yJ _)).1
theorem Keeps.gr (h:Keeps D w vm mem)(g:Gr w w'):Keeps D w' vm mem:=h.frs (FrS.of_gr (S:=fun _=>False) g) (fun _ _ q=>q)
theorem Keeps.more (h:Keeps D w vm mem)(hD:∀k,D k->D' k)(hD':∀k,D' k->k<w.heap.size):Keeps D' w vm mem:=⟨hD',h.2.1,fun w' d g=>have q:=h.2.2 w' (fun k hk=>d k (hD k hk)) g;⟨q.1,q.2.more hD⟩⟩
structure OutsAt (D:Nat->Prop)(B:Nat)(w:World)(v:Value)(outs:List zO)(vms:List Value):Prop where
 len:vms.length=outs.length
 own:w.ownsRow B 27 5 v outs.length (dP outs vms)
 at_:∀(j:Nat)(o:zO)(vm:Value),outs[j]?=some o->vms[j]?=some vm->Keeps D w vm o.mem
theorem qW (os:List zO)(vs:List Value)(h:∀v∈vs,v.oneCell'=true):∀y∈dP os vs,y.oneCell'=true:=by
 induction os generalizing vs with
 | nil=>intro y d;cases vs<;>simp[dP]at d
 | cons o os ih =>
  cases vs with
  | nil=>intro y d;simp[dP]at d
  | cons v vs =>
   intro y d;rw[dP,yz]at d;rcases d with d|d
   ·simp[kU]at d;rcases d with rfl|rfl|rfl|rfl|rfl
    ·rfl
    ·rfl
    ·rfl
    ·rfl
    ·exact h _ (by simp)
   ·exact ih vs (fun u g=>h u (by simp[g])) y d
theorem OutsAt.one {outs:List zO}(h:OutsAt D B w v outs vms):∀y∈dP outs vms,y.oneCell'=true :=
 qW _ _ fun u m=>by obtain⟨j,g⟩:=List.getElem?_of_mem m;have d:=(xS.1 g).1;obtain⟨o,l⟩:∃o,outs[j]?=some o:=⟨_,xR (by rw[<-h.len];exact d)⟩;obtain⟨-,⟨A,c,rfl⟩,-⟩:=h.at_ j o u l g;rfl
theorem jN:∀(os:List zO)(vs:List Value)(i:Nat),vs.length=os.length->(dP os vs).take (i*5)=dP (os.take i) (vs.take i)/\(dP os vs).drop (i*5)=dP (os.drop i) (vs.drop i)
 | [],[],i,_=>by simp[dP]
 | o::os,v::vs,0,_=>by simp[dP]
 | o::os,v::vs,i+1,h=>by
  have:=jN os vs i (by simpa using h)
  rw[show (i+1)*5=(kU o v).length+i*5 by show _=5+_;omega];constructor
  ·rw[dP,List.take_length_add_append,this.1];rfl
  ·rw[dP,List.drop_length_add_append,this.2];rfl
 | [],_::_,_,h=>by simp at h
 | _::_,[],_,h=>by simp at h
theorem tG {outs:List zO}(h:OutsAt D B w v outs vms)(hB:B<=w.heap.size)(hn:outs.length<=1000)(hi:i<=outs.length){x:zO}(hx:Keeps D w vx x.mem)(hyb:w.heap[vb]?=some (.cells (kU x vx).toArray t2 (0,0)))(hvb:v.ownBlock≠some vb)(hD:∀k,D k->v.ownBlock≠some k) :
  Calls prog 83 #[v,.int .i64 i,.slice (some ⟨vb,0,none⟩) 1 1] w fun e w'=>∃A c,e=.returned (.slice A (outs.length+1) c)/\OutsAt D B w' (.slice A (outs.length+1) c) (outs.take i++x::outs.drop i) (vms.take i++vx::vms.drop i)/\FrS (fun k=>v.ownBlock=some k) w w'/\∀k,(Value.slice A (outs.length+1) c).ownBlock=some k->v.ownBlock=some k\/w.heap.size<=k:=by
 have p:vx.oneCell'=true:=by obtain⟨-,⟨A,c,rfl⟩,-⟩:=hx;rfl
 refine(vj (i:=i) h.own hB hn hi rfl hyb hvb (by
   intro y r
   simp[kU]at r
   rcases r with rfl|rfl|rfl|rfl|rfl
   · rfl
   · rfl
   · rfl
   · rfl
   · exact p) h.one).mono fun e w' ⟨A,c,z,t,u,G⟩=>⟨A,c,z,⟨?_,?_,?_⟩,u,G⟩
 ·simp[h.len]
 ·have hl:(outs.take i++x::outs.drop i).length=outs.length+1:=by simp;omega
  rw[hl];obtain⟨E,F⟩:=jN outs vms i h.len;rw[fE _ _ _ _ (by simp[h.len])];rw[E,F,List.append_assoc]at t;exact t
 ·intro j o vm d g
  have l:Keeps D w vm o.mem:=by
   rcases Nat.lt_trichotomy j i with q|q|q
   ·rw[yd (by simp;omega),yf,yr q]at d;rw[yd (by simp[h.len];omega),yf,yr q]at g;exact h.at_ j o vm d g
   ·subst q;rw[ye (by simp;omega)]at d;rw[ye (by simp;omega)]at g;simp[Nat.min_eq_left hi]at d;simp[h.len,Nat.min_eq_left hi]at g;subst d;subst g;exact hx
   ·rw[ye (by simp;omega)]at d;rw[ye (by simp;omega)]at g;obtain⟨m,C⟩:∃m,j=i+1+m:=⟨j-i-1,by omega⟩;subst C;rw[show i+1+m-(outs.take i).length=m+1 by simp[Nat.min_eq_left hi];omega]at d;rw[show i+1+m-(vms.take i).length=m+1 by simp[h.len,Nat.min_eq_left hi];omega]at g;simp at d g;exact h.at_ (i+m) o vm d g
  exact l.frs u (fun k l=>hD k l)
namespace Rn
theorem Jb (x:V):∀(n k:Nat)(z:Int),k<n->(FW x n z)[k]?=some (if x.p=true then -1 else z / 256 ^ k%256)
 | 0,k,z,h=>by omega
 | n+1,0,z,_=>by simp[FW]
 | n+1,k+1,z,h=>by
  have:=Jb x n k (z / 256) (by omega)
  rw[FW,xV,this,Int.pow_succ,Int.mul_comm,Int.ediv_ediv_of_nonneg (by decide)]
theorem KJ (h:a+bs.length<=l.length)(i:Nat):(Di l a bs)[i]?=if a<=i/\i<a+bs.length then bs[i-a]? else l[i]?:=by
 unfold Di;have d:(l.take a).length=a:=by rw[List.length_take];omega
 by_cases g:i<a
 ·rw[yt (by omega),List.append_assoc,yd (by omega),yf,yr g]
 ·rw[List.append_assoc,ye (by omega),d];by_cases j:i<a+bs.length
  ·rw[yr ⟨by omega,j⟩,yd (by omega)]
  ·rw[yt (by omega),ye (by omega),List.getElem?_drop];congr 1;omega
theorem JA (l:List Int)(a:Nat):Di l a []=l:=by unfold Di;simp
theorem JB (h:a+bs.length<=l.length)(hk:bs[k]?=some y):Di l a (bs.take (k+1))=(Di l a (bs.take k)).set (a+k) y:=by
 have m:=(xS.1 hk).1;have g:(bs.take (k+1)).length=k+1:=by rw[List.length_take];omega
 have j:(bs.take k).length=k:=by rw[List.length_take];omega
 apply List.ext_getElem?;intro i;rw[KJ (by omega)];by_cases e:a+k=i
 ·subst e;rw[yC (by rw[FL (by omega)];omega),yr ⟨by omega,by omega⟩,show a+k-a=k by omega,yf,yr (by omega),hk]
 ·rw[List.getElem?_set_ne e,KJ (by omega),g,j];by_cases d:a<=i/\i<a+k
  ·rw[yr ⟨d.1,by omega⟩,yr d,yf,yf,yr (by omega),yr (by omega)]
  ·rw[yt (by omega),yt d]
end Rn
def onI:Value:=.iface 208 (.agg #[])
theorem uT (X:Int)(k m:Nat)(hm:m=8*k)(h0:0<=X)(h1:X<4294967296):bits .and .u32 (X / 2 ^ m) 255=X / 256 ^ k%256:=by have e:=Ji (n:=8) (x:=X / 2 ^ m) ⟨by decide,by decide⟩ (yH h0 (Int.le_of_lt (Int.pow_pos (by decide)))) (Int.lt_of_le_of_lt (Int.ediv_le_self _ h0) h1);rw[Jo k m hm];exact e
def RowIs (bj:Nat)(l:List Int)(w:World):Prop:=∃cur:Array Value,w.heap[bj]?=some (.cells cur 3 (0,0))/\∀(i:Nat)(z:Int),l[i]?=some z->cur[i]?=some (.int .i64 z)
theorem RowIs.cell (h:RowIs bj l w)(hz:l[i]?=some z):w.cell? ⟨bj,i,none⟩=some (.int .i64 z):=by obtain⟨d,g,j⟩:=h;exact(yo _ _ i _ _ _ g).trans (j i z hz)
theorem RowIs.free (h:RowIs bj l w)(i:Nat):w.frozen? ⟨bj,i,none⟩=false:=by obtain⟨d,g,j⟩:=h;unfold World.frozen?;simp[g]
theorem RowIs.set (h:RowIs bj l w)(hi:i<l.length)(y:Int):RowIs bj (l.set i y) (w.setCell ⟨bj,i,none⟩ (.int .i64 y)):=by
 obtain⟨g,q,p⟩:=h;refine⟨_,cX _ q,fun j z d=>?_⟩
 have m:i<g.size:=by have:=p i l[i] (xR hi);exact(xY.1 this).1
 by_cases e:i=j
 ·subst e;rw[yC hi]at d;injection d with d;subst d;rw[Array.getElem?_setIfInBounds_self_of_lt m]
 ·rw[List.getElem?_set_ne e]at d;rw[Array.getElem?_setIfInBounds_ne e];exact p j z d
theorem RowIs.gr (h:RowIs bj l w)(g:Gr w w'):RowIs bj l w':=by obtain⟨d,j,m⟩:=h;exact⟨d,(g.heap _ (cY j)).trans j,m⟩
def kV (c:Cfg)(w:World)(s:AN)(b frm:Int)(vt:Value)(p x:Rn.V)(n:Nat)(e:Ending)(w':World):Prop :=
 match DT s.mem p x n with
 | none=>e=.returned pW/\Gr w w'
 | some m=>e=.returned onI/\PS c w' {s with mem:=m} b frm vt/\FrS (Mut c) w w'
theorem pD {s:AN}{b frm:Int}{vt:Value}(h:PS c w s b frm vt)(hf:VFn c.f)(hi:Rn.Inv c.f s)(p x:Rn.V)(hp:Fp c.f 33 p)(n:Nat)(hn1:1<=n)(hn:n<=4)(hx:0<=x.n/\x.n<4294967296) :
  Calls prog 169 #[.pointer (some ⟨c.Bs,0,none⟩),vv p,vv x,.int .i64 n] w (kV c w s b frm vt p x n):=by
 obtain⟨W,hW⟩:=xJ ((w.alloc (.cells #[.bool p.p,.int .i64 p.s,.int .u32 p.n] 24)).alloc (.cells #[.bool x.p,.int .i64 x.s,.int .u32 x.n] 24));have j:Gr w W:=by rw[<-hW];exact((yO w).alloc _).alloc _
 have HB:=dJ j;have B:Gr (w.alloc (.cells #[.bool p.p,.int .i64 p.s,.int .u32 p.n] 24)) W:=by rw[<-hW];exact(yO _).alloc _
 have g2:Gr ((w.alloc (.cells #[.bool p.p,.int .i64 p.s,.int .u32 p.n] 24)).alloc (.cells #[.bool x.p,.int .i64 x.s,.int .u32 x.n] 24)) W:=by rw[hW];exact yO _
 have L:W.heap.size=w.heap.size+2:=by rw[<-hW];exact kQ _ _ _
 have a0:W.cell? ⟨w.heap.size,0,none⟩=some (.bool p.p):=df _ _ 0 B rfl;have a1:W.cell? ⟨w.heap.size,1,none⟩=some (.int .i64 p.s):=df _ _ 1 B rfl;have a2:W.cell? ⟨w.heap.size,2,none⟩=some (.int .u32 p.n):=df _ _ 2 B rfl;have x0:W.cell? ⟨w.heap.size+1,0,none⟩=some (.bool x.p):=df _ _ 0 g2 (by simp);have x2:W.cell? ⟨w.heap.size+1,2,none⟩=some (.int .u32 x.n):=df _ _ 2 g2 (by simp)
 have HX:Hid (∀w',FrS (fun k=>k<w.heap.size) W w'->w'.cell? ⟨w.heap.size+1,0,none⟩=some (.bool x.p)/\w'.cell? ⟨w.heap.size+1,2,none⟩=some (.int .u32 x.n)):=fun w' q=>by have e:=q.block (w.heap.size+1) (by omega) (by omega);exact⟨(yE (a:=⟨w.heap.size+1,0,none⟩) e).trans x0,(yE (a:=⟨w.heap.size+1,2,none⟩) e).trans x2⟩
 have ap:=dJ L;by_cases C:Dv s.mem p n=none
 ·have CN:=dJ (jh (h.gr j) hf hi p hp n hn C)
  have HR:Hid (DT s.mem p x n=none):=by
   show _=_;unfold Dv at C;unfold DT;split at C;next q=>rw[yr q]
   next q=>cases C
  clear h hi hp C j B g2 L x0 x2;unfold vv at CN ⊢
  go_enter func169, ntmps169
  go_wp2_with (first|(go_at_call 187;refine CN.out.mono ?_;rintro e w1 ⟨rfl,B⟩)|(go_at_call 167;refine(dD _).mono ?_;rintro e w2 ⟨rfl,rfl⟩))
  go_ret;unfold kV;rw[HR.out];exact⟨rfl,HB.out.trans B⟩
 ·obtain⟨y,cp,E,Z,au,CS⟩:=ji (h.gr j) hf hi p hp n hn1 hn C
  have M:p.p=false:=by
   cases q:p.p with
   | false=>rfl
   | true=>exact absurd (by unfold Dv;rw[yr (.inl q)]) C
  obtain⟨p1,p2,p3,p4⟩:=hp.ptr M;obtain⟨aq,ar,l,u,ab,hl,-,-,-,-,-,-,-,-,ag,A,t⟩:=h.slot hf hi p1 p2;rw[E]at u;injection u with u;injection u with e1 e2;subst e1;subst e2
  have aa:p.n.toNat+n<=l.length:=by
   rcases yw l.length (p.n.toNat+n) with q|q
   ·exact absurd (by unfold Dv;rw[hl,yr (.inr q)]) C
   ·exact q
  obtain⟨z,D⟩:=xJ (FW x n x.n);have ah:z.length=n:=by rw[<-D];exact If _ _ _
  have ad:Hid (∀k,k<n->z[k]?=some (if x.p=true then -1 else x.n / 256 ^ k%256)):=fun k hk=>by rw[<-D];exact Jb x n k x.n hk
  have U:Hid (DT s.mem p x n=some (s.mem.set (p.s-1).toNat (Di l p.n.toNat z))):=by show _=_;unfold DT;rw[yt (by rw[hl,M];simp;omega),hl,D]
  have F:Hid (∀w',RowIs y (Di l p.n.toNat z) w'->FrS (·=y) W w'->PS c w' {s with mem:=s.mem.set (p.s-1).toNat (Di l p.n.toNat z)} b frm vt/\FrS (Mut c) w w'):=fun w' hr r=>by obtain⟨an,r1,r2⟩:=hr;exact⟨(h.gr j).memSet E ab (FL (by omega)) r r1 r2,(FrS.of_gr j).trans (r.mono fun k hk=>by rw[hk];exact .inr (.inr (.inr ⟨_,cp,E⟩)))⟩
  have T:Hid (RowIs y l W):=(RowIs.gr ⟨ag,A,t⟩ j:RowIs y l W);have X:=cY A;have R:=dJ X;have H:=dJ CS;obtain⟨N,hN⟩:=xJ p.n.toNat;rw[hN]at Z H U F aa;have I:=dJ aa;have ax:=hx.1;have ay:=hx.2;have ae:=dJ fun k m hm=>uT x.n k m hm hx.1 hx.2;clear C CS D hp hi h E hl t A j hN p1 p2 p3 p4 M B g2 L X ab x0 x2;unfold vv at H ⊢
  go_enter func169, ntmps169
  go_wp2_with (first|(go_at_call 187;refine H.out.mono ?_;rintro e w1 ⟨rfl,B⟩;have S:=dJ B))
  have af:=dJ (T.out.gr S.out)
  go_loopw [24] (fun Q wr=>∃k:Nat,k<=n/\Q=.int .i64 (k:Int)/\Hid (RowIs y (Di l N (z.take k)) wr)/\Hid (FrS (·=y) W wr)) (fun Q _=>n-(intOf Q).toNat)
  case atStart=>exact⟨0,yI _,rfl,by (show RowIs _ _ _);rw[List.take_zero,JA];exact af.out,FrS.of_gr S.out⟩
  case round =>
   obtain⟨k,hk,rfl,d,r⟩:=hrel;by_cases ak:k<n
   ·have al:(Di l N (z.take k)).length=l.length:=FL (by rw[List.length_take];have:=I.out;omega);have K:N+k<(Di l N (z.take k)).length:=by have:=I.out;omega
    obtain⟨old,G⟩:∃v:Int,(Di l N (z.take k))[N+k]?=some v:=⟨_,xR K⟩;have hc:=d.out.cell G;have av:=d.out.free (N+k);obtain⟨y0,y2⟩:=HX.out wr (r.out.mono fun q hq=>by have:=R.out;omega);have y3:∀v,(wr.setCell ⟨y,N+k,none⟩ v).cell? ⟨w.heap.size+1,0,none⟩=some (.bool x.p):=fun v=>(World.cell?_setCell_far _ ⟨y,N+k,none⟩ ⟨w.heap.size+1,0,none⟩ v (by show y≠w.heap.size+1;have:=R.out;omega)).trans y0;obtain⟨m,hm⟩:∃m,m=8*k:=⟨_,rfl⟩;have aw:8*(k:Int)=(m:Int):=by omega
    have ao:m<32:=by omega
    have HM:=dJ hm;have Y:=ad.out k ak;have ac:=JB (l:=l) (a:=N) (by rw[ah];exact I.out) Y;have g:=dJ ac;have J:=dJ K;have ai:bits .and .u32 (x.n / 2 ^ m) 255=x.n / 256 ^ k%256:=ae.out k m hm;obtain⟨yb,O⟩:=xJ (x.n / 256 ^ k%256);have am:0<=yb/\yb<256:=by rw[<-O];exact⟨Int.emod_nonneg _ (by decide),Int.emod_lt_of_pos _ (by decide)⟩
    obtain⟨az,aA⟩:=am;rw[O]at ai g;clear hm Y ac O G K al
    cases hxp:x.p with
    | true =>
     rw[hxp,yr rfl]at g;rw[hxp]at y0;simp only[hxp]at y3;clear hxp;go_wp2;refine⟨⟨k+1,by omega,by go_num,?_,?_⟩,by simp[intOf];omega⟩
     ·show RowIs _ _ _;rw[g.out];have r1:=d.out.set J.out yb;have r2:=r1.set (i:=N+k) (by rw[List.length_set];exact J.out) (-1)
      rwa [List.set_set]at r2
     ·exact(r.out.setCell (p:=⟨y,N+k,none⟩) rfl _).setCell (p:=⟨y,N+k,none⟩) rfl _
    | false =>
     rw[hxp,yt (by decide)]at g;rw[hxp]at y0;simp only[hxp]at y3;clear hxp;go_wp2;refine⟨⟨k+1,by omega,by go_num,?_,?_⟩,by simp[intOf];omega⟩
     ·show RowIs _ _ _;rw[g.out];exact d.out.set J.out yb
     ·exact r.out.setCell (p:=⟨y,N+k,none⟩) rfl _
   ·have aj:k=n:=by omega
    subst aj;go_wp2;go_ret;unfold kV;rw[U.out];have e:z.take k=z:=yh (by omega);rw[e]at d;obtain⟨r1,r2⟩:=F.out _ d.out r.out;exact⟨rfl,r1,r2⟩
theorem jF (o n l a b:Int)(w:World)(ho:o=19\/o=20)(hn:zi n)(ha:yX n a)(hb:yX n b)(hl1:1<=l)(hl2:l<n)(hl3:n%l=0):Calls prog 195 #[.int .i64 o,.int .i64 n,.int .i64 l,.int .u32 a,.int .u32 b] w (RG (.tuple #[.int .u32 (CP o l (n / l).toNat a b),.int .i64 0]) w):=by
 have Y:=dJ (wC n a b hn ha hb);have p:zi l:=⟨hl1,by have:=hn.2;omega⟩;have B:=dJ fun M=>dG l M p;obtain⟨n1,n2⟩:=id hn;obtain⟨s,H⟩:=xJ (m9 l-1);obtain⟨L,Z⟩:=xZ (show 0<=l by omega);have u:=dJ Z;clear Z;obtain⟨K,E⟩:=xJ ((n / l).toNat);rw[H]at B;rw[E];have aa:(n.tmod l != 0)=false:=by rw[Int.tmod_eq_emod_of_nonneg (by omega),hl3];rfl
 have U:(n%l != 0)=false:=by rw[hl3];rfl
 have c0:(l == 0)=false:=by simp;omega
 have C:Hid (n=L*K):=by
  show _=_;have q:=Int.mul_ediv_add_emod n l;have N:0<=n / l:=yH (by omega) (by omega);have J:((K:Nat):Int)=n / l:=by omega
  rw[J,<-u.out];omega
 have E:=dJ E;have H:=dJ H;have r:0<=a/\a<4294967296:=⟨ha.1,by have:=C4 hn;have:=ha.2;omega⟩;have t:0<=b/\b<4294967296:=⟨hb.1,by have:=C4 hn;have:=hb.2;omega⟩;rcases ho with rfl|rfl
 ·have D:=dJ fun m=>vu p m r t;have Q:=dJ fun(k m:Nat)(x v:Int)=>lL (o:=19) (a:=a) (b:=b) (x:=x) (v:=v) (k:=k) (m:=m) hn hl1 u.out E.out hl3;rw[H.out]at D;clear hn ha hb p hl3 r t
  go_enter func195, ntmps195
  go_wp2_with (go_at_call 210;refine(Y.out _ _ (by simp) (by simp)).mono ?_;rintro e M ⟨rfl,rfl⟩);have O:=dJ ((yO w).alloc (.cells #[.int .u32 a,.int .u32 b] 22))
  go_loopw [12,13] (fun A g wr=>∃(k m:Nat)(x:Int),k<=K/\Hid (m=k*L)/\Hid (x=CP 19 l k a b)/\A=.int .u32 x/\g=.int .i64 (m:Int)/\Hid (Gr w wr)) (fun _ g _=>n.toNat-(intOf g).toNat)
  case atStart=>exact⟨0,0,0,yI _,by (show _=_;omega),rfl,rfl,rfl,O⟩
  case round =>
   obtain⟨k,m,x,hk,G,I,rfl,rfl,F⟩:=hrel;by_cases j:(m:Int)<n
   ·have W:m<32:=by omega
    have d:=dJ j;go_wp2;go_quiet ((go_at_call 147;exact dq (B.out _)));all_goals go_wp2_with (go_at_call 147;refine(B.out _).mono ?_;rintro e M ⟨rfl,rfl⟩)
    all_goals
     obtain⟨X,N,J⟩:=Q.out k m x _ G.out I.out d.out (D.out m);have y:=u.out;refine⟨⟨k+1,m+L,_,N,J,X,rfl,?_,F.out.drewN _⟩,?_⟩
     ·rw[y];simp
     ·simp[intOf];omega
   ·have d:=dJ j;go_wp2;go_ret2
    have e:k=K:=by
     have R:=C.out;have S:=G.out;have T:¬(m:Int)<n:=by have:=d.out;omega
     rcases yw k K with h|h
     ·exfalso;apply T;rw[R,S];have:(k:Int)<K:=by omega
      have z:(0:Int)<(L:Int):=by have:=u.out;omega
      have:=Int.mul_lt_mul_of_pos_left this z;rw[Int.natCast_mul,Int.mul_comm];exact this
     ·omega
    subst e;exact⟨by rw[<-I.out];rfl,F.out⟩
 ·have D:=dJ fun m=>vz p m r t;have Q:=dJ fun(k m:Nat)(x v:Int)=>lL (o:=20) (a:=a) (b:=b) (x:=x) (v:=v) (k:=k) (m:=m) hn hl1 u.out E.out hl3;rw[H.out]at D;clear hn ha hb p hl3 r t
  go_enter func195, ntmps195
  go_wp2_with (go_at_call 210;refine(Y.out _ _ (by simp) (by simp)).mono ?_;rintro e M ⟨rfl,rfl⟩);have O:=dJ ((yO w).alloc (.cells #[.int .u32 a,.int .u32 b] 22))
  go_loopw [12,13] (fun A g wr=>∃(k m:Nat)(x:Int),k<=K/\Hid (m=k*L)/\Hid (x=CP 20 l k a b)/\A=.int .u32 x/\g=.int .i64 (m:Int)/\Hid (Gr w wr)) (fun _ g _=>n.toNat-(intOf g).toNat)
  case atStart=>exact⟨0,0,0,yI _,by (show _=_;omega),rfl,rfl,rfl,O⟩
  case round =>
   obtain⟨k,m,x,hk,G,I,rfl,rfl,F⟩:=hrel;by_cases j:(m:Int)<n
   ·have W:m<32:=by omega
    have d:=dJ j;go_wp2;go_quiet ((go_at_call 147;exact dq (B.out _)));all_goals go_wp2_with (go_at_call 147;refine(B.out _).mono ?_;rintro e M ⟨rfl,rfl⟩)
    all_goals
     obtain⟨X,N,J⟩:=Q.out k m x _ G.out I.out d.out (D.out m);have y:=u.out;refine⟨⟨k+1,m+L,_,N,J,X,rfl,?_,F.out.drewN _⟩,?_⟩
     ·rw[y];simp
     ·simp[intOf];omega
   ·have d:=dJ j;go_wp2;go_ret2
    have e:k=K:=by
     have R:=C.out;have S:=G.out;have T:¬(m:Int)<n:=by have:=d.out;omega
     rcases yw k K with h|h
     ·exfalso;apply T;rw[R,S];have:(k:Int)<K:=by omega
      have z:(0:Int)<(L:Int):=by have:=u.out;omega
      have:=Int.mul_lt_mul_of_pos_left this z;rw[Int.natCast_mul,Int.mul_comm];exact this
     ·omega
    subst e;exact⟨by rw[<-I.out];rfl,F.out⟩
def LAt (w:World)(vl:Value)(l:List Rn.V):Prop:=∃bl,vl=.slice (some ⟨bl,0,none⟩) l.length l.length/\w.heap[bl]?=some (.cells (dB l).toArray 24 (0,0))
theorem LAt.cells {l:List Rn.V}(h:w.heap[bl]?=some (.cells (dB l).toArray 24 (0,0))){v:Rn.V}(hv:l[k]?=some v) :
  w.cell? ⟨bl,3*k,none⟩=some (.bool v.p)/\w.cell? ⟨bl,3*k+1,none⟩=some (.int .i64 v.s)/\w.cell? ⟨bl,3*k+2,none⟩=some (.int .u32 v.n):=by
 obtain⟨d,g,j⟩:=dX l k v hv;refine⟨?_,?_,?_⟩
 ·rw[yo _ _ _ _ _ _ h];simpa using d
 ·rw[yo _ _ _ _ _ _ h];simpa using g
 ·rw[yo _ _ _ _ _ _ h];simpa using j
def dW (w:World)(x:Ins)(va vt:Value):World:=w.alloc (.cells #[.int .i64 x.op,.int .i64 x.w,.int .i64 x.g,va,.int .u32 x.i,vt] 68)
theorem dl {va vt:Value}(g:Gr (dW w x va vt) w') :
  w'.cell? ⟨w.heap.size,0,none⟩=some (.int .i64 x.op)/\w'.cell? ⟨w.heap.size,1,none⟩=some (.int .i64 x.w)/\w'.cell? ⟨w.heap.size,2,none⟩=some (.int .i64 x.g)/\w'.cell? ⟨w.heap.size,3,none⟩=some va/\w'.cell? ⟨w.heap.size,4,none⟩=some (.int .u32 x.i)/\w'.cell? ⟨w.heap.size,5,none⟩=some vt :=
 ⟨df _ _ 0 g rfl,df _ _ 1 g rfl,df _ _ 2 g rfl,df _ _ 3 g rfl,df _ _ 4 g rfl,df _ _ 5 g rfl⟩
section
variable {c:Cfg}{w:World}{s:AN}{b frm:Int}{vt:Value}
theorem rP (h:PS c w s b frm vt)(hf:VFn c.f)(x:Ins)(va vt':Value)(hx:IntsAt c.n₀ w va x.args)(vl:Value)(l0 l1:Rn.V)(hl:LAt w vl [l0,l1])(o:x.op=14)(a d:Int)(ha:x.args=[a,d])(hk:zi (Ref.kind c.f a))(hi:0<=x.i/\x.i<=9)(h0:yX (Ref.kind c.f a) l0.n)(h1:yX (Ref.kind c.f a) l1.n) :
  Calls prog 173 #[.pointer (some ⟨c.Bs,0,none⟩),dj x va vt',vl] w (RG (vI (Jy (Gy x.i (Ref.kind c.f a) l0.n l1.n))) w):=by
 obtain⟨W,m⟩:=xJ (dW w x va vt');have g:Gr w W:=by rw[<-m];exact(yO w).alloc _
 have J:Gr (dW w x va vt') W:=by rw[m];exact yO _
 have p:=EX (f:=c.f) (v:=a) (by have:=hk.1;omega);have E:=dJ fun(u:GrW W)=>ff (h.gr (g.trans u.gr)) hf a p.1 p.2;obtain⟨k,q⟩:=xJ (Ref.kind c.f a);rw[q]at E hk h0 h1 ⊢;have D:=dJ fun(w1:World)=>le x.i k l0.n l1.n w1 hi hk h0 h1;obtain⟨t,K⟩:=xJ (Gy x.i k l0.n l1.n);rw[K]at D ⊢;have m0:=hi.1;have m1:x.i<4294967296:=by omega
 obtain⟨y,rfl,j⟩:=hl;obtain⟨Aa,ca,rfl,a1,a2,a3⟩:=hx;rw[ha]at a1 a3;obtain⟨r,C,rfl,aa,a4⟩:=a3 (by simp);have l:r<w.heap.size:=by have:=h.n₀;omega
 have H:=a4 0 a rfl;have I:=a4 1 d rfl;have X:=fun(u:GrW W)=>dl (J.trans u.gr);have G:∀u:GrW W,u.val.cell? ⟨w.heap.size,0,none⟩=some (.int .i64 14):=fun u=>by rw[<-o];exact(X u).1
 have U:W.cell? ⟨w.heap.size,0,none⟩=some (.int .i64 14):=G ⟨W,yO _⟩;have Y:∀u:GrW W,u.val.cell? ⟨w.heap.size,1,none⟩=some (.int .i64 x.w):=fun u=>(X u).2.1;have Z:∀u:GrW W,u.val.cell? ⟨w.heap.size,2,none⟩=some (.int .i64 x.g):=fun u=>(X u).2.2.1;have V3:∀u:GrW W,u.val.cell? ⟨w.heap.size,3,none⟩=some (.slice (some ⟨r,C,none⟩) 2 ca):=fun u=>by have:=(X u).2.2.2.1;rw[ha]at this;exact this
 have V4:∀u:GrW W,u.val.cell? ⟨w.heap.size,4,none⟩=some (.int .u32 x.i):=fun u=>(X u).2.2.2.2.1;have L:∀u:GrW W,u.val.cell? ⟨r,C,none⟩=some (.int .i64 a):=fun u=>((g.trans u.gr).cell _ _ l).trans H;have M:∀u:GrW W,u.val.cell? ⟨r,C+1,none⟩=some (.int .i64 d):=fun u=>((g.trans u.gr).cell _ _ l).trans I;have Q:∀u:GrW W,u.val.cell? ⟨y,2,none⟩=some (.int .u32 l0.n):=fun u=>(LAt.cells (((g.trans u.gr).heap _ (cY j)).trans j) (k:=0) rfl).2.2;have S:∀u:GrW W,u.val.cell? ⟨y,1,none⟩=some (.int .i64 l0.s):=fun u=>(LAt.cells (((g.trans u.gr).heap _ (cY j)).trans j) (k:=0) rfl).2.1;have R:∀u:GrW W,u.val.cell? ⟨y,5,none⟩=some (.int .u32 l1.n):=fun u=>(LAt.cells (((g.trans u.gr).heap _ (cY j)).trans j) (k:=1) rfl).2.2;have T:∀u:GrW W,u.val.cell? ⟨y,4,none⟩=some (.int .i64 l1.s):=fun u=>(LAt.cells (((g.trans u.gr).heap _ (cY j)).trans j) (k:=1) rfl).2.1;have N:=dJ g;unfold dW at m;rw[ha,show ([a,d]:List Int).length=2 from rfl]at m ⊢;unfold dj;rw[o]at m ⊢;clear h hf q hk h0 h1 K a3 a4 H I j X J g hi
 go_enter func173, ntmps173
 go_wp2;refine dc (by kernel_rfl) (by kernel_rfl) ?_;repeat (go_big_quiet_step ((rename_i u;first|(go_at_call 170;exact dk u (E.out u))|(go_at_call 192;exact dk u (D.out u.val)))))
 refine wpQuiet_nil ?_;intro w9 A;obtain⟨u9,rfl⟩:=A;clear G Y Z V3 V4 L M Q R S T;have F:=dJ fun w1=>pE t w1;obtain⟨z,B⟩:∃z:Int,(if t=true then 1 else 0)=z:=⟨_,rfl⟩;rw[B]at F;have O:=dJ B;clear B;go_wp2_with (go_at_call 193;refine(F.out _).mono ?_;rintro e w8 ⟨rfl,g8⟩);go_ret;exact⟨by unfold Jy;rw[O.out];rfl,(N.out.trans u9.gr).trans g8⟩
theorem ni (h:PS c w s b frm vt)(hf:VFn c.f)(x:Ins)(va vt':Value)(hx:IntsAt c.n₀ w va x.args)(vl:Value)(l0:Rn.V)(hl:LAt w vl [l0])(o:x.op=16)(a:Int)(ha:x.args=[a])(hk:zi (Ref.kind c.f a))(hw:zi x.w)(hd:Ref.kind c.f a<x.w)(h0:yX (Ref.kind c.f a) l0.n) :
  Calls prog 173 #[.pointer (some ⟨c.Bs,0,none⟩),dj x va vt',vl] w (RG (vI (Ae (E0 16 (Ref.kind c.f a) x.w l0.n))) w):=by
 obtain⟨W,j⟩:=xJ (dW w x va vt');have d:Gr w W:=by rw[<-j];exact(yO w).alloc _
 have D:Gr (dW w x va vt') W:=by rw[j];exact yO _
 have m:=EX (f:=c.f) (v:=a) (by have:=hk.1;omega);have z:=dJ fun(u:GrW W)=>ff (h.gr (d.trans u.gr)) hf a m.1 m.2;obtain⟨k,p⟩:=xJ (Ref.kind c.f a);rw[p]at z hk h0 hd ⊢;have y:=dJ fun(w1:World)=>gh 16 k x.w l0.n w1 (by decide) hk hw h0 (by rw[yt (by decide)];exact hd);obtain⟨t,E⟩:=xJ (E0 16 k x.w l0.n);rw[E]at y ⊢;obtain⟨B,rfl,g⟩:=hl;obtain⟨T,ca,rfl,Q,U,a3⟩:=hx;rw[ha]at Q a3;obtain⟨q,F,rfl,R,a4⟩:=a3 (by simp);have l:q<w.heap.size:=by have:=h.n₀;omega
 have C:=a4 0 a rfl;have X:=fun(u:GrW W)=>dl (D.trans u.gr);have A:∀u:GrW W,u.val.cell? ⟨w.heap.size,0,none⟩=some (.int .i64 16):=fun u=>by rw[<-o];exact(X u).1
 have K:W.cell? ⟨w.heap.size,0,none⟩=some (.int .i64 16):=A ⟨W,yO _⟩;have L:∀u:GrW W,u.val.cell? ⟨w.heap.size,1,none⟩=some (.int .i64 x.w):=fun u=>(X u).2.1;have M:∀u:GrW W,u.val.cell? ⟨w.heap.size,2,none⟩=some (.int .i64 x.g):=fun u=>(X u).2.2.1;have N:∀u:GrW W,u.val.cell? ⟨w.heap.size,3,none⟩=some (.slice (some ⟨q,F,none⟩) 1 ca):=fun u=>by have:=(X u).2.2.2.1;rw[ha]at this;exact this
 have O:∀u:GrW W,u.val.cell? ⟨w.heap.size,4,none⟩=some (.int .u32 x.i):=fun u=>(X u).2.2.2.2.1;have G:∀u:GrW W,u.val.cell? ⟨q,F,none⟩=some (.int .i64 a):=fun u=>((d.trans u.gr).cell _ _ l).trans C;have I:∀u:GrW W,u.val.cell? ⟨B,2,none⟩=some (.int .u32 l0.n):=fun u=>(LAt.cells (((d.trans u.gr).heap _ (cY g)).trans g) (k:=0) rfl).2.2;have J:∀u:GrW W,u.val.cell? ⟨B,1,none⟩=some (.int .i64 l0.s):=fun u=>(LAt.cells (((d.trans u.gr).heap _ (cY g)).trans g) (k:=0) rfl).2.1;have H:=dJ d;unfold dW at j;rw[ha,show ([a]:List Int).length=1 from rfl]at j ⊢;unfold dj;rw[o]at j ⊢;clear h hf p hk h0 hw hd E a3 a4 C g X D d
 go_enter func173, ntmps173
 go_wp2;refine dc (by kernel_rfl) (by kernel_rfl) ?_;repeat (go_big_quiet_step ((rename_i u;first|(go_at_call 170;exact dk u (z.out u))|(go_at_call 194;exact dk u (y.out u.val)))))
 refine wpQuiet_nil ?_;intro Y r;obtain⟨S,rfl⟩:=r;clear A L M N O G I J;go_wp2;go_ret;exact⟨rfl,H.out.trans S.gr⟩
theorem nj (h:PS c w s b frm vt)(hf:VFn c.f)(x:Ins)(va vt':Value)(hx:IntsAt c.n₀ w va x.args)(vl:Value)(l0:Rn.V)(hl:LAt w vl [l0])(o:x.op=17)(a:Int)(ha:x.args=[a])(hk:zi (Ref.kind c.f a))(hw:zi x.w)(hd:Ref.kind c.f a<x.w)(h0:yX (Ref.kind c.f a) l0.n) :
  Calls prog 173 #[.pointer (some ⟨c.Bs,0,none⟩),dj x va vt',vl] w (RG (vI (Ae (E0 17 (Ref.kind c.f a) x.w l0.n))) w):=by
 obtain⟨W,j⟩:=xJ (dW w x va vt');have d:Gr w W:=by rw[<-j];exact(yO w).alloc _
 have D:Gr (dW w x va vt') W:=by rw[j];exact yO _
 have m:=EX (f:=c.f) (v:=a) (by have:=hk.1;omega);have z:=dJ fun(u:GrW W)=>ff (h.gr (d.trans u.gr)) hf a m.1 m.2;obtain⟨k,p⟩:=xJ (Ref.kind c.f a);rw[p]at z hk h0 hd ⊢;have y:=dJ fun(w1:World)=>gh 17 k x.w l0.n w1 (by decide) hk hw h0 (by rw[yt (by decide)];exact hd);obtain⟨t,E⟩:=xJ (E0 17 k x.w l0.n);rw[E]at y ⊢;obtain⟨B,rfl,g⟩:=hl;obtain⟨T,ca,rfl,Q,U,a3⟩:=hx;rw[ha]at Q a3;obtain⟨q,F,rfl,R,a4⟩:=a3 (by simp);have l:q<w.heap.size:=by have:=h.n₀;omega
 have C:=a4 0 a rfl;have X:=fun(u:GrW W)=>dl (D.trans u.gr);have A:∀u:GrW W,u.val.cell? ⟨w.heap.size,0,none⟩=some (.int .i64 17):=fun u=>by rw[<-o];exact(X u).1
 have K:W.cell? ⟨w.heap.size,0,none⟩=some (.int .i64 17):=A ⟨W,yO _⟩;have L:∀u:GrW W,u.val.cell? ⟨w.heap.size,1,none⟩=some (.int .i64 x.w):=fun u=>(X u).2.1;have M:∀u:GrW W,u.val.cell? ⟨w.heap.size,2,none⟩=some (.int .i64 x.g):=fun u=>(X u).2.2.1;have N:∀u:GrW W,u.val.cell? ⟨w.heap.size,3,none⟩=some (.slice (some ⟨q,F,none⟩) 1 ca):=fun u=>by have:=(X u).2.2.2.1;rw[ha]at this;exact this
 have O:∀u:GrW W,u.val.cell? ⟨w.heap.size,4,none⟩=some (.int .u32 x.i):=fun u=>(X u).2.2.2.2.1;have G:∀u:GrW W,u.val.cell? ⟨q,F,none⟩=some (.int .i64 a):=fun u=>((d.trans u.gr).cell _ _ l).trans C;have I:∀u:GrW W,u.val.cell? ⟨B,2,none⟩=some (.int .u32 l0.n):=fun u=>(LAt.cells (((d.trans u.gr).heap _ (cY g)).trans g) (k:=0) rfl).2.2;have J:∀u:GrW W,u.val.cell? ⟨B,1,none⟩=some (.int .i64 l0.s):=fun u=>(LAt.cells (((d.trans u.gr).heap _ (cY g)).trans g) (k:=0) rfl).2.1;have H:=dJ d;unfold dW at j;rw[ha,show ([a]:List Int).length=1 from rfl]at j ⊢;unfold dj;rw[o]at j ⊢;clear h hf p hk h0 hw hd E a3 a4 C g X D d
 go_enter func173, ntmps173
 go_wp2;refine dc (by kernel_rfl) (by kernel_rfl) ?_;repeat (go_big_quiet_step ((rename_i u;first|(go_at_call 170;exact dk u (z.out u))|(go_at_call 194;exact dk u (y.out u.val)))))
 refine wpQuiet_nil ?_;intro Y r;obtain⟨S,rfl⟩:=r;clear A L M N O G I J;go_wp2;go_ret;exact⟨rfl,H.out.trans S.gr⟩
theorem nk (h:PS c w s b frm vt)(hf:VFn c.f)(x:Ins)(va vt':Value)(hx:IntsAt c.n₀ w va x.args)(vl:Value)(l0:Rn.V)(hl:LAt w vl [l0])(o:x.op=18)(a:Int)(ha:x.args=[a])(hk:zi (Ref.kind c.f a))(hw:zi x.w)(hd:x.w<Ref.kind c.f a)(h0:yX (Ref.kind c.f a) l0.n) :
  Calls prog 173 #[.pointer (some ⟨c.Bs,0,none⟩),dj x va vt',vl] w (RG (vI (Ae (E0 18 (Ref.kind c.f a) x.w l0.n))) w):=by
 obtain⟨W,j⟩:=xJ (dW w x va vt');have d:Gr w W:=by rw[<-j];exact(yO w).alloc _
 have D:Gr (dW w x va vt') W:=by rw[j];exact yO _
 have m:=EX (f:=c.f) (v:=a) (by have:=hk.1;omega);have z:=dJ fun(u:GrW W)=>ff (h.gr (d.trans u.gr)) hf a m.1 m.2;obtain⟨k,p⟩:=xJ (Ref.kind c.f a);rw[p]at z hk h0 hd ⊢;have y:=dJ fun(w1:World)=>gh 18 k x.w l0.n w1 (by decide) hk hw h0 (by rw[yr rfl];exact hd);obtain⟨t,E⟩:=xJ (E0 18 k x.w l0.n);rw[E]at y ⊢;obtain⟨B,rfl,g⟩:=hl;obtain⟨T,ca,rfl,Q,U,a3⟩:=hx;rw[ha]at Q a3;obtain⟨q,F,rfl,R,a4⟩:=a3 (by simp);have l:q<w.heap.size:=by have:=h.n₀;omega
 have C:=a4 0 a rfl;have X:=fun(u:GrW W)=>dl (D.trans u.gr);have A:∀u:GrW W,u.val.cell? ⟨w.heap.size,0,none⟩=some (.int .i64 18):=fun u=>by rw[<-o];exact(X u).1
 have K:W.cell? ⟨w.heap.size,0,none⟩=some (.int .i64 18):=A ⟨W,yO _⟩;have L:∀u:GrW W,u.val.cell? ⟨w.heap.size,1,none⟩=some (.int .i64 x.w):=fun u=>(X u).2.1;have M:∀u:GrW W,u.val.cell? ⟨w.heap.size,2,none⟩=some (.int .i64 x.g):=fun u=>(X u).2.2.1;have N:∀u:GrW W,u.val.cell? ⟨w.heap.size,3,none⟩=some (.slice (some ⟨q,F,none⟩) 1 ca):=fun u=>by have:=(X u).2.2.2.1;rw[ha]at this;exact this
 have O:∀u:GrW W,u.val.cell? ⟨w.heap.size,4,none⟩=some (.int .u32 x.i):=fun u=>(X u).2.2.2.2.1;have G:∀u:GrW W,u.val.cell? ⟨q,F,none⟩=some (.int .i64 a):=fun u=>((d.trans u.gr).cell _ _ l).trans C;have I:∀u:GrW W,u.val.cell? ⟨B,2,none⟩=some (.int .u32 l0.n):=fun u=>(LAt.cells (((d.trans u.gr).heap _ (cY g)).trans g) (k:=0) rfl).2.2;have J:∀u:GrW W,u.val.cell? ⟨B,1,none⟩=some (.int .i64 l0.s):=fun u=>(LAt.cells (((d.trans u.gr).heap _ (cY g)).trans g) (k:=0) rfl).2.1;have H:=dJ d;unfold dW at j;rw[ha,show ([a]:List Int).length=1 from rfl]at j ⊢;unfold dj;rw[o]at j ⊢;clear h hf p hk h0 hw hd E a3 a4 C g X D d
 go_enter func173, ntmps173
 go_wp2;refine dc (by kernel_rfl) (by kernel_rfl) ?_;repeat (go_big_quiet_step ((rename_i u;first|(go_at_call 170;exact dk u (z.out u))|(go_at_call 194;exact dk u (y.out u.val)))))
 refine wpQuiet_nil ?_;intro Y r;obtain⟨S,rfl⟩:=r;clear A L M N O G I J;go_wp2;go_ret;exact⟨rfl,H.out.trans S.gr⟩
theorem kJ (h:PS c w s b frm vt)(hf:VFn c.f)(x:Ins)(va vt':Value)(hx:IntsAt c.n₀ w va x.args)(vl:Value)(l0 l1:Rn.V)(hl:LAt w vl [l0,l1])(o:x.op=19)(a d:Int)(ha:x.args=[a,d])(hw:zi x.w)(h0:yX x.w l0.n)(h1:yX x.w l1.n)(i1:1<=x.i)(i2:x.i<x.w)(i3:x.w%x.i=0) :
  Calls prog 173 #[.pointer (some ⟨c.Bs,0,none⟩),dj x va vt',vl] w (RG (vI (Ae (CP 19 x.i (x.w / x.i).toNat l0.n l1.n))) w):=by
 obtain⟨W,m⟩:=xJ (dW w x va vt');have j:Gr w W:=by rw[<-m];exact(yO w).alloc _
 have D:Gr (dW w x va vt') W:=by rw[m];exact yO _
 have z:=dJ fun(w1:World)=>jF 19 x.w x.i l0.n l1.n w1 (by decide) hw h0 h1 i1 i2 i3;obtain⟨t,E⟩:=xJ (CP 19 x.i (x.w / x.i).toNat l0.n l1.n);rw[E]at z ⊢;have m0:0<=x.i:=by omega
 have m1:x.i<4294967296:=by have:=hw.2;omega
 obtain⟨q,rfl,g⟩:=hl;obtain⟨Y,ca,rfl,S,Z,a3⟩:=hx;rw[ha]at S a3;obtain⟨p,y,rfl,T,a4⟩:=a3 (by simp);have l:p<w.heap.size:=by have:=h.n₀;omega
 have B:=a4 0 a rfl;have C:=a4 1 d rfl;have X:=fun(u:GrW W)=>dl (D.trans u.gr);have A:∀u:GrW W,u.val.cell? ⟨w.heap.size,0,none⟩=some (.int .i64 19):=fun u=>by rw[<-o];exact(X u).1
 have M:W.cell? ⟨w.heap.size,0,none⟩=some (.int .i64 19):=A ⟨W,yO _⟩;have N:∀u:GrW W,u.val.cell? ⟨w.heap.size,1,none⟩=some (.int .i64 x.w):=fun u=>(X u).2.1;have O:∀u:GrW W,u.val.cell? ⟨w.heap.size,2,none⟩=some (.int .i64 x.g):=fun u=>(X u).2.2.1;have Q:∀u:GrW W,u.val.cell? ⟨w.heap.size,3,none⟩=some (.slice (some ⟨p,y,none⟩) 2 ca):=fun u=>by have:=(X u).2.2.2.1;rw[ha]at this;exact this
 have R:∀u:GrW W,u.val.cell? ⟨w.heap.size,4,none⟩=some (.int .u32 x.i):=fun u=>(X u).2.2.2.2.1;have F:∀u:GrW W,u.val.cell? ⟨p,y,none⟩=some (.int .i64 a):=fun u=>((j.trans u.gr).cell _ _ l).trans B;have G:∀u:GrW W,u.val.cell? ⟨p,y+1,none⟩=some (.int .i64 d):=fun u=>((j.trans u.gr).cell _ _ l).trans C;have I:∀u:GrW W,u.val.cell? ⟨q,2,none⟩=some (.int .u32 l0.n):=fun u=>(LAt.cells (((j.trans u.gr).heap _ (cY g)).trans g) (k:=0) rfl).2.2;have K:∀u:GrW W,u.val.cell? ⟨q,1,none⟩=some (.int .i64 l0.s):=fun u=>(LAt.cells (((j.trans u.gr).heap _ (cY g)).trans g) (k:=0) rfl).2.1;have J:∀u:GrW W,u.val.cell? ⟨q,5,none⟩=some (.int .u32 l1.n):=fun u=>(LAt.cells (((j.trans u.gr).heap _ (cY g)).trans g) (k:=1) rfl).2.2;have L:∀u:GrW W,u.val.cell? ⟨q,4,none⟩=some (.int .i64 l1.s):=fun u=>(LAt.cells (((j.trans u.gr).heap _ (cY g)).trans g) (k:=1) rfl).2.1;have H:=dJ j;unfold dW at m;rw[ha,show ([a,d]:List Int).length=2 from rfl]at m ⊢;unfold dj;rw[o]at m ⊢;clear h hf h0 h1 hw i1 i2 i3 E a3 a4 B C g X D j
 go_enter func173, ntmps173
 go_wp2;refine dc (by kernel_rfl) (by kernel_rfl) ?_;repeat (go_big_quiet_step ((rename_i u;(go_at_call 195;exact dk u (z.out u.val)))))
 refine wpQuiet_nil ?_;intro w9 r;obtain⟨U,rfl⟩:=r;clear A N O Q R F G I J K L;go_wp2;go_ret;exact⟨rfl,H.out.trans U.gr⟩
theorem kK (h:PS c w s b frm vt)(hf:VFn c.f)(x:Ins)(va vt':Value)(hx:IntsAt c.n₀ w va x.args)(vl:Value)(l0 l1:Rn.V)(hl:LAt w vl [l0,l1])(o:x.op=20)(a d:Int)(ha:x.args=[a,d])(hw:zi x.w)(h0:yX x.w l0.n)(h1:yX x.w l1.n)(i1:1<=x.i)(i2:x.i<x.w)(i3:x.w%x.i=0) :
  Calls prog 173 #[.pointer (some ⟨c.Bs,0,none⟩),dj x va vt',vl] w (RG (vI (Ae (CP 20 x.i (x.w / x.i).toNat l0.n l1.n))) w):=by
 obtain⟨W,m⟩:=xJ (dW w x va vt');have j:Gr w W:=by rw[<-m];exact(yO w).alloc _
 have D:Gr (dW w x va vt') W:=by rw[m];exact yO _
 have z:=dJ fun(w1:World)=>jF 20 x.w x.i l0.n l1.n w1 (by decide) hw h0 h1 i1 i2 i3;obtain⟨t,E⟩:=xJ (CP 20 x.i (x.w / x.i).toNat l0.n l1.n);rw[E]at z ⊢;have m0:0<=x.i:=by omega
 have m1:x.i<4294967296:=by have:=hw.2;omega
 obtain⟨q,rfl,g⟩:=hl;obtain⟨Y,ca,rfl,S,Z,a3⟩:=hx;rw[ha]at S a3;obtain⟨p,y,rfl,T,a4⟩:=a3 (by simp);have l:p<w.heap.size:=by have:=h.n₀;omega
 have B:=a4 0 a rfl;have C:=a4 1 d rfl;have X:=fun(u:GrW W)=>dl (D.trans u.gr);have A:∀u:GrW W,u.val.cell? ⟨w.heap.size,0,none⟩=some (.int .i64 20):=fun u=>by rw[<-o];exact(X u).1
 have M:W.cell? ⟨w.heap.size,0,none⟩=some (.int .i64 20):=A ⟨W,yO _⟩;have N:∀u:GrW W,u.val.cell? ⟨w.heap.size,1,none⟩=some (.int .i64 x.w):=fun u=>(X u).2.1;have O:∀u:GrW W,u.val.cell? ⟨w.heap.size,2,none⟩=some (.int .i64 x.g):=fun u=>(X u).2.2.1;have Q:∀u:GrW W,u.val.cell? ⟨w.heap.size,3,none⟩=some (.slice (some ⟨p,y,none⟩) 2 ca):=fun u=>by have:=(X u).2.2.2.1;rw[ha]at this;exact this
 have R:∀u:GrW W,u.val.cell? ⟨w.heap.size,4,none⟩=some (.int .u32 x.i):=fun u=>(X u).2.2.2.2.1;have F:∀u:GrW W,u.val.cell? ⟨p,y,none⟩=some (.int .i64 a):=fun u=>((j.trans u.gr).cell _ _ l).trans B;have G:∀u:GrW W,u.val.cell? ⟨p,y+1,none⟩=some (.int .i64 d):=fun u=>((j.trans u.gr).cell _ _ l).trans C;have I:∀u:GrW W,u.val.cell? ⟨q,2,none⟩=some (.int .u32 l0.n):=fun u=>(LAt.cells (((j.trans u.gr).heap _ (cY g)).trans g) (k:=0) rfl).2.2;have K:∀u:GrW W,u.val.cell? ⟨q,1,none⟩=some (.int .i64 l0.s):=fun u=>(LAt.cells (((j.trans u.gr).heap _ (cY g)).trans g) (k:=0) rfl).2.1;have J:∀u:GrW W,u.val.cell? ⟨q,5,none⟩=some (.int .u32 l1.n):=fun u=>(LAt.cells (((j.trans u.gr).heap _ (cY g)).trans g) (k:=1) rfl).2.2;have L:∀u:GrW W,u.val.cell? ⟨q,4,none⟩=some (.int .i64 l1.s):=fun u=>(LAt.cells (((j.trans u.gr).heap _ (cY g)).trans g) (k:=1) rfl).2.1;have H:=dJ j;unfold dW at m;rw[ha,show ([a,d]:List Int).length=2 from rfl]at m ⊢;unfold dj;rw[o]at m ⊢;clear h hf h0 h1 hw i1 i2 i3 E a3 a4 B C g X D j
 go_enter func173, ntmps173
 go_wp2;refine dc (by kernel_rfl) (by kernel_rfl) ?_;repeat (go_big_quiet_step ((rename_i u;(go_at_call 195;exact dk u (z.out u.val)))))
 refine wpQuiet_nil ?_;intro w9 r;obtain⟨U,rfl⟩:=r;clear A N O Q R F G I J K L;go_wp2;go_ret;exact⟨rfl,H.out.trans U.gr⟩
end
end
