/- Parts. -/
import Derived.Test.YthfhamagopbgcaaGreatL43
set_option linter.unusedSimpArgs false
set_option linter.unusedVariables false
set_option maxRecDepth 100000
set_option maxHeartbeats 16000000
open Go.Proofs.Tryz
namespace Go.Proofs.YthfhamagopbgcaaGreat
section
open Go.RowKit
def ef:Value:=.slice none 0 0
section
variable {c:Cfg}{pk bl:List Int}{w:World}{s:Rn.St}{o:Rn.Out}{om wv bv:Value}
end
def eu {α:Type}(d:α)(rs:List α)(n k:Nat):List α:=rs.take k++List.replicate (n-k) d
theorem fo {α:Type}(d:α)(rs:List α)(n k:Nat)(h:k<=rs.length)(hn:rs.length<=n):(eu d rs n k).length=n:=by unfold eu;simp;omega
theorem fB {α:Type}(d:α)(rs:List α)(n:Nat):eu d rs n 0=List.replicate n d:=by unfold eu;simp
theorem fA {α:Type}(d:α)(rs:List α)(n k:Nat)(hn:rs.length<=n)(v:α)(h:rs[k]?=some v):(eu d rs n k).set k v=eu d rs n (k+1):=by
 have p:=(yC.1 h).1;apply List.ext_getElem?;intro i;have g:(rs.take k).length=k:=by simp;omega
 have j:(rs.take (k+1)).length=k+1:=by simp;omega
 by_cases e:k=i
 ·subst e;rw[ww (by rw[fo _ _ _ _ (by omega) hn];omega)];unfold eu;rw[vJ (by omega),vL,wa (by omega),h]
 ·rw[List.getElem?_set_ne e];unfold eu;by_cases l:i<k
  ·rw[vJ (by omega),vJ (by omega),vL,vL,wa l,wa (by omega)]
  ·rw[vK (by omega),vK (by omega),g,j,vR,vR];by_cases m:i<n
   ·rw[wa (by omega),wa (by omega)]
   ·rw[yD (by omega),yD (by omega)]
theorem rG (n:Nat):madeCells #[Value.bool false] (n*1)=((List.replicate n false).map Value.bool).toArray:=by
 apply Array.ext_getElem?;intro i;rcases wh i n with h|h
 ·unfold madeCells;rw[Array.getElem?_map,Array.getElem?_range,wa (by omega)];simp[h,Nat.mod_one]
 ·rw[Array.getElem?_eq_none (by rw[size_madeCells];omega),Array.getElem?_eq_none (by simp;omega)]
theorem mO (w:World)(n:Nat)(hn:n<=1000):(Instr.makeSlice 79 (.int .i64 n) (.int .i64 n)).run prog w=.ok (.slice (some ⟨w.heap.size,0,none⟩) n n) (w.alloc (.cells ((List.replicate n false).map Value.bool).toArray 4)):=by obtain⟨m,g,j,d,l⟩:=info_parts kO;have:=run_makeSlice (P:=prog) (w:=w) 79 4 m _ underlying79 g j .i64 .i64 n n (by omega) (by omega) (by rw[d];omega) (by rw[l];omega) (by omega);rw[this,d];simp only[vG];rw[show (Value.bool false).cells=#[Value.bool false] from rfl,rG]
def tZ (vp:Value)(ret:Int)(vs vb ch a5 a6 a7 a8:Value):Array Value:=#[vp,.int .i64 ret,vs,vb,ch,a5,a6,a7,a8,.int .i64 0,.int .i64 (-1),.int .i64 0,.slice none 0 0]
structure SS (N:Nat)(w0 w:World)(vp:Value)(ret:Int)(vs vb ch va vm a5 a6 a7 a8:Value):Prop where
 gr:Gr w0 w
 n:N=w0.heap.size
 fb:w.heap[N]?=some (.cells #[vp,.int .i64 ret,vs,vb] 25 (0,0))
 ib:w.heap[N+1]?=some (.cells #[va,vm] 29 (0,0))
 st:w.heap[N+2]?=some (.cells (tZ vp ret vs vb ch a5 a6 a7 a8) 100 (0,0))
section
variable {N:Nat}{w0 w w' w2:World}{vp vs vb ch va vm a5 a6 a7 a8 v':Value}{ret:Int}{S:Nat->Prop}{e:TypeId}{xs ys:List Value}{tmp:Obj}
theorem SS.lt (h:SS N w0 w vp ret vs vb ch va vm a5 a6 a7 a8):N+3<=w.heap.size:=by have:=cY h.st;omega
theorem SS.keep (h:SS N w0 w vp ret vs vb ch va vm a5 a6 a7 a8)(hF:FrS S w w')(hS:∀k,S k->N+3<=k):SS N w0 w' vp ret vs vb ch va vm a5 a6 a7 a8 where
 gr:=Gr.below h.gr (hF.below (n:=N) (fun k d=>by have:=hS k d;omega) (by have:=h.lt;omega)) (by rw[h.n];exact vV _)
 n:=h.n
 fb:=(hF.block _ (cY h.fb) (fun q=>by have:=hS _ q;omega)).trans h.fb
 ib:=(hF.block _ (cY h.ib) (fun q=>by have:=hS _ q;omega)).trans h.ib
 st:=(hF.block _ (cY h.st) (fun q=>by have:=hS _ q;omega)).trans h.st
theorem SS.grow (h:SS N w0 w vp ret vs vb ch va vm a5 a6 a7 a8)(g:Gr w w'):SS N w0 w' vp ret vs vb ch va vm a5 a6 a7 a8:=h.keep (FrS.of_gr (S:=fun _=>False) g) (fun _ q=>q.elim)
theorem SS.put (h:SS N w0 w vp ret vs vb ch va vm a5 a6 a7 a8)(i:Nat)(v:Value){b5 b6 b7 b8:Value}(hr:(tZ vp ret vs vb ch a5 a6 a7 a8).setIfInBounds i v=tZ vp ret vs vb ch b5 b6 b7 b8):SS N w0 (w.setCell ⟨N+2,i,none⟩ v) vp ret vs vb ch va vm b5 b6 b7 b8 where
 gr:=Gr.setCell h.gr (p:=⟨N+2,i,none⟩) (by have:=h.n;show w0.heap.size<=N+2;omega) v
 n:=h.n
 fb:=(wk _ _ _ _ (by show N≠N+2;omega)).trans h.fb
 ib:=(wk _ _ _ _ (by show N+1≠N+2;omega)).trans h.ib
 st:=by have:=cX (i:=i) v h.st;rw[hr]at this;exact this
theorem SS.push (h:SS N w0 w vp ret vs vb ch va vm a5 a6 a7 a8){v:Value}(ho:Own1 (N+3) e w v xs)(hg:(w.alloc tmp).grownBy w2 v.ownBlock)(ho2:Own1 (N+3) e w2 v' ys) :
  SS N w0 w2 vp ret vs vb ch va vm a5 a6 a7 a8/\(∀i,Own1 (N+3) e (w2.setCell ⟨N+2,i,none⟩ v') v' ys)/\∀i,FrS (fun k=>v.ownBlock=some k\/k=N+2) w (w2.setCell ⟨N+2,i,none⟩ v'):=by
 have g:FrS (fun k=>v.ownBlock=some k) w w2:=((FrS.refl _ w).alloc tmp).grown hg (fun k d=>.inl d);refine⟨h.keep g (fun k d=>(dg ho d).1),fun i=>dr ho2 fun k d=>wk _ _ _ _ (by have:=(dg ho2 d).1;show k≠N+2;omega),fun i=>(g.mono fun k d=>.inl d).setCell (p:=⟨N+2,i,none⟩) (.inr rfl) _⟩
end
def frL (f:Fn)(k:Nat):List Value:=(List.range k).map fun j=>Value.int .i64 (Ref.number f j:Nat)
theorem lU (f:Fn)(k:Nat):(frL f k).length=k:=by unfold frL;simp
theorem rq (f:Fn)(k:Nat):frL f (k+1)=frL f k++[Value.int .i64 (Ref.number f k:Nat)]:=by unfold frL;rw[List.range_succ,List.map_append];rfl
structure MK (N:Nat)(W T:World)(row:Array Value)(bs:List (Nat × Obj)):Prop where
 fr:FrS (·=N+2) W T
 st:T.heap[N+2]?=some (.cells row 100 (0,0))
 at_:∀p∈bs,T.heap[p.1]?=some p.2/\W.heap.size<=p.1
theorem MK.start {N:Nat}{W:World}{row:Array Value}(h:W.heap[N+2]?=some (.cells row 100 (0,0))):MK N W W.drew row []:=⟨(FrS.refl _ W).drew,h,fun p d=>by cases d⟩
theorem MK.alloc {N:Nat}{W T:World}{row:Array Value}{bs:List (Nat × Obj)}(h:MK N W T row bs)(o:Obj):MK N W (T.alloc o) row ((T.heap.size,o)::bs) where
 fr:=h.fr.alloc o
 st:=(((wL T).alloc o).heap _ (cY h.st)).trans h.st
 at_:=fun p d=>by
  rcases List.mem_cons.1 d with rfl|d
  ·exact⟨heap_alloc_new T o,h.fr.size⟩
  ·exact⟨(((wL T).alloc o).heap _ (cY (h.at_ p d).1)).trans (h.at_ p d).1,(h.at_ p d).2⟩
theorem MK.set {N:Nat}{W T:World}{row:Array Value}{bs:List (Nat × Obj)}(h:MK N W T row bs)(hN:N+2<W.heap.size)(i:Nat)(v:Value):MK N W (T.setCell ⟨N+2,i,none⟩ v) (row.setIfInBounds i v) bs where
 fr:=h.fr.setCell (p:=⟨N+2,i,none⟩) rfl v
 st:=cX v h.st
 at_:=fun p d=>⟨(wk _ _ _ _ (by have:=(h.at_ p d).2;show p.1≠N+2;omega)).trans (h.at_ p d).1,(h.at_ p d).2⟩
theorem MK.mono {N:Nat}{W T:World}{row:Array Value}{bs bs':List (Nat × Obj)}(h:MK N W T row bs)(hb:∀p∈bs',p∈bs):MK N W T row bs':=⟨h.fr,h.st,fun p d=>h.at_ p (hb p d)⟩
theorem sG {N:Nat}{W:World}{row:Array Value}(h:W.heap[N+2]?=some (.cells row 100 (0,0)))(v5 v6:Value)(c1 c2:Array Value)(t1 t2:TypeId) :
  MK N W (((((W.setCell ⟨N+2,5,none⟩ v5).setCell ⟨N+2,6,none⟩ v6).alloc (.cells c1 t1)).alloc (.cells c2 t2)).drew) ((row.setIfInBounds 5 v5).setIfInBounds 6 v6) [(W.heap.size,.cells c1 t1 (0,0)),(W.heap.size+1,.cells c2 t2 (0,0))]:=by
 have hN:=cY h;have m:MK N W W row []:=⟨FrS.refl _ W,h,fun p d=>by cases d⟩;have g:=(((m.set hN 5 v5).set hN 6 v6).alloc (.cells c1 t1)).alloc (.cells c2 t2);have j:((W.setCell ⟨N+2,5,none⟩ v5).setCell ⟨N+2,6,none⟩ v6).heap.size=W.heap.size:=by simp
 have l:(((W.setCell ⟨N+2,5,none⟩ v5).setCell ⟨N+2,6,none⟩ v6).alloc (.cells c1 t1)).heap.size=W.heap.size+1:=by simp
 rw[j,l]at g
 exact⟨g.fr.drew,g.st,fun p d=>g.at_ p (by
   rcases List.mem_cons.1 d with rfl|d
   · exact List.mem_cons_of_mem _ (List.mem_cons_self)
   · rcases List.mem_cons.1 d with rfl|d
     · exact List.mem_cons_self
     · cases d)⟩
def usV (us:List (Nat × Nat))(mem:List (List Int)):List Value:=List.zipWith (fun u l=>Value.slice (some ⟨u.1,0,none⟩) l.length u.2) us mem
structure MU (N:Nat)(w:World)(us:List (Nat × Nat))(mem:List (List Int))(vf:Value):Prop where
 row:∀(j b cp:Nat)(l:List Int),us[j]?=some (b,cp)->mem[j]?=some l->N+3<=b/\l.length<=cp/\cp<=9223372036854775807/\∃cur:Array Value,w.heap[b]?=some (.cells cur 3 (0,0))/\∀(i:Nat)(z:Int),l[i]?=some z->cur[i]?=some (.int .i64 z)
 apart:(us.map (·.1)).Nodup
 off:∀u∈us,vf.ownBlock≠some u.1
 all:∀u∈us,u.1<w.heap.size
theorem MU.nil (N:Nat)(w:World)(mem:List (List Int))(vf:Value):MU N w [] mem vf:=⟨fun j b d l h=>by simp at h,List.nodup_nil,fun u h=>(by cases h),fun u h=>(by cases h)⟩
theorem MU.keep {N:Nat}{w w':World}{us:List (Nat × Nat)}{mem:List (List Int)}{vf:Value}(h:MU N w us mem vf)(hle:us.length<=mem.length){S:Nat->Prop}(hF:FrS S w w')(hS:∀u∈us,¬S u.1):MU N w' us mem vf where
 row:=fun j b p l g q=>by obtain⟨t,y,z,d,m,A⟩:=h.row j b p l g q;exact⟨t,y,z,d,(hF.block b (cY m) (hS _ (vz g))).trans m,A⟩
 apart:=h.apart
 off:=h.off
 all:=fun u r=>by have:=h.all u r;have:=hF.size;omega
theorem gF (us:List (Nat × Nat))(mem:List (List Int))(h:us.length<=mem.length):(usV us mem).length=us.length:=by unfold usV;simp;omega
theorem kg:∀(us:List (Nat × Nat))(mem:List (List Int))(u:Nat × Nat)(l:List Int),mem[us.length]?=some l->usV (us++[u]) mem=usV us mem++[Value.slice (some ⟨u.1,0,none⟩) l.length u.2]
 | [],[],u,l,h=>by simp at h
 | [],m::ms,u,l,h=>by simp at h;subst h;simp[usV]
 | v::vs,[],u,l,h=>by simp at h
 | v::vs,m::ms,u,l,h=>by
  have:=kg vs ms u l (by simpa using h)
  simp only[usV,List.cons_append,List.zipWith_cons_cons]at this ⊢;rw[this]
theorem oG {P:Program}{w:World}{ops:Array Oper}{o:Oper}{a:Act}{K:Act->World->Prop}{Q:Exit->Act->World->Prop}{F:Prop}{f:FuncId}{args:Array Value}
  (hg:o.guard=none) (hr:(execOp a.eval o).run P w=.ok (.enter f args) w) (hc:Calls P f args w fun e w'=>∃v,e=.returned v/\K (a.put o.dst v) w') :
  if Region.wanted o (yielded ops a.tmps)=true then Oper.wp P o a w K Q else F:=by
 have j:Region.wanted o (yielded ops a.tmps)=true:=by simp[Region.wanted,hg]
 rw[wa j];unfold Oper.wp;rw[hr];exact hc.mono fun e w' ⟨v,d,g⟩=>by subst d;exact g
section
variable {P:Program}{w:World}
end
def rh (vp:Value)(ret:Int)(vs vb vm pk va vh:Value):Array Value:=#[vp,.int .i64 ret,vs,vb,vm,pk,.int .i64 0,.bool false,.int .i64 0,.int .u32 0,ef,ef,ef,.int .i64 0,va,vh]
structure WS (N:Nat)(W w:World)(row:Array Value):Prop where
 fr:FrS (·=N) W w
 st:w.heap[N]?=some (.cells row 122 (0,0))
section
variable {N:Nat}{W w w' w2:World}{row row':Array Value}{v v':Value}{e:TypeId}{xs ys:List Value}{tmp:Obj}{S:Nat->Prop}
theorem WS.keep (h:WS N W w row)(hF:FrS S w w')(hS:∀k,S k->W.heap.size<=k)(hN:N<W.heap.size):WS N W w' row where
 fr:=by refine(FrS.weaken (S:=fun k=>k=N\/W.heap.size<=k) ((h.fr.mono fun k hk=>.inl hk).trans (hF.mono fun k hk=>.inr (hS k hk))) fun k hk q=>q.elim (fun e=>e) (fun e=>by omega))
 st:=(hF.block _ (cY h.st) (fun q=>by have:=hS _ q;omega)).trans h.st
theorem WS.grow (h:WS N W w row)(g:Gr w w')(hN:N<W.heap.size):WS N W w' row:=h.keep (FrS.of_gr (S:=fun _=>False) g) (fun _ q=>q.elim) hN
theorem WS.put (h:WS N W w row)(i:Nat)(v:Value)(hr:row.setIfInBounds i v=row'):WS N W (w.setCell ⟨N,i,none⟩ v) row':=⟨h.fr.setCell (p:=⟨N,i,none⟩) rfl v,by have:=cX (i:=i) v h.st;rw[hr]at this;exact this⟩
end
section
variable {N k n b cap c8 c2:Nat}{W w wr w1 w2:World}{vp vs vb pk va vh:Value}{ret:Int}{us:List (Nat × Nat)}{mem:List (List Int)}{l:List Int}{A8 A2:Option Addr}{tmp:Obj}
structure WM (N n:Nat)(W w:World)(vp:Value)(ret:Int)(vs vb vm pk:Value)(us:List (Nat × Nat))(mem:List (List Int))(Bv Bh:Nat)(vals:List Rn.V)(had:List Bool):Prop where
 ws:WS (N+3) W w (rh vp ret vs vb vm pk (.slice (some ⟨Bv,0,none⟩) n n) (.slice (some ⟨Bh,0,none⟩) n n))
 mu:MU (N+1) w us mem ef
 row:Own1 (N+4) 22 w vm (usV us mem)
 hv:w.heap[Bv]?=some (.cells (dy vals).toArray 37 (0,0))
 hh:w.heap[Bh]?=some (.cells (had.map Value.bool).toArray 4 (0,0))
 vN:N+4<=Bv
 hN:N+4<=Bh
theorem WM.grow (hW:W.heap.size=N+4){vm:Value}{Bv Bh:Nat}{vals:List Rn.V}{had:List Bool}(h:WM N n W wr vp ret vs vb vm pk us mem Bv Bh vals had)(hle:us.length<=mem.length)(g:Gr wr w1):WM N n W w1 vp ret vs vb vm pk us mem Bv Bh vals had where
 ws:=h.ws.grow g (by omega)
 mu:=h.mu.keep hle (FrS.of_gr (S:=fun _=>False) g) (fun _ _ q=>q)
 row:=h.row.gr g
 hv:=(g.heap _ (cY h.hv)).trans h.hv
 hh:=(g.heap _ (cY h.hh)).trans h.hh
 vN:=h.vN
 hN:=h.hN
end
theorem lI {D:Nat->Prop}{B:Nat}{w:World}{v:Value}{outs:List Rn.Out}{vms:List Value}(h:OutsAt D B w v outs vms)(hn:outs.length<=1000)(ha:Rn.Asc outs){x:Rn.Out}{vx:Value}(hx:Keeps D w vx x.mem) :
  Calls prog 49 #[v,gS x vx,.func (.func 50) #[] #[]] w (RG (.tuple #[.int .i64 (Rn.below x outs:Nat),.bool (decide (outs[Rn.below x outs]?=some x))]) w):=by
 obtain⟨L,J⟩:=xJ (Rn.below x outs);have M:L<=outs.length:=by rw[<-J];exact Rn.below_le x outs
 have ad:Hid (∀j y,outs[j]?=some y->(Rn.cmpOut y x<0↔j<L)):=fun j y H=>by rw[<-J];exact Rn.below_at x outs ha j y H
 obtain⟨F,hF⟩:∃F,decide (outs[L]?=some x)=F:=⟨_,rfl⟩;have Z:=dJ hF;obtain⟨W,hW⟩:=xJ (ml w x vx);have g1:Gr w W:=by rw[<-hW];exact(wL w).alloc _
 have r:Hid (∀wr,Gr W wr->∀u:GrW wr,_):=fun wr g u=>ed (w:=w) (o:=x) (vm:=vx) (w':=u.val) (by rw[hW];exact g.trans u.gr);obtain⟨A,c,hv,hc,hA,ae⟩:=dU h.own;subst hv
 have Y:Hid (∀wr,Gr W wr->∀j y,outs[j]?=some y->∃b I,A=some ⟨b,0,none⟩/\(∃X cy,I=.slice X y.mem.length cy)/\(∀u:GrW wr,u.val.cell? ⟨b,j*5,none⟩=some (.int .i64 y.kind)/\u.val.cell? ⟨b,j*5+1,none⟩=some (.bool y.ret.p)/\u.val.cell? ⟨b,j*5+2,none⟩=some (.int .i64 y.ret.s)/\u.val.cell? ⟨b,j*5+3,none⟩=some (.int .u32 y.ret.n)/\u.val.cell? ⟨b,j*5+4,none⟩=some I) /\
     ∀u:GrW wr,Calls prog 50 #[gS y I,gS x vx] u.val (RG (.int .i64 (Rn.cmpOut y x)) u.val)):=fun wr g j y H=>by
  have hj:=(yC.1 H).1;obtain⟨b,e,af,-,R⟩:=dz h.own rfl (by omega);obtain⟨I,ac⟩:∃I,vms[j]?=some I:=⟨_,vu (by rw[h.len];exact hj)⟩;have hk:=h.at_ j y I H ac;refine⟨b,I,e,?_,fun u=>?_,fun u=>?_⟩
  ·obtain⟨-,⟨X,cy,e2⟩,-⟩:=hk;exact⟨X,cy,e2⟩
  ·have gg:Gr w u.val:=(g1.trans g).trans u.gr;have q:=fun t (ht:t<5)=>(gg.cell b (j*5+t) af).trans ((R (j*5+t) (by omega)).trans (kJ outs vms j t y I H ac ht));exact⟨q 0 (by decide),q 1 (by decide),q 2 (by decide),q 3 (by decide),q 4 (by decide)⟩
  ·have gg:Gr w u.val:=(g1.trans g).trans u.gr;exact fQ (hk.gr gg).tab (hx.gr gg).tab (vV _)
 have aa:=dJ g1;obtain⟨-,⟨Ax,cx,rfl⟩,-⟩:=hx;obtain⟨n,K⟩:=xJ outs.length;have HN:=dJ K;rw[K]at hn M hc;rw[J,hF,K];clear h ha J hF g1 K hA ae;unfold ml at hW;unfold gS at *
 go_enter func49, ntmps49
 go_wp2
 go_loopw [9,10] (fun s9 s10 wr=>∃C z:Nat,s9=.int .i64 (C:Int)/\s10=.int .i64 (z:Int)/\C<=L/\L<=z/\z<=n/\Hid (Gr W wr)) (fun s9 s10 _=>(intOf s10).toNat-(intOf s9).toNat)
 case atStart=>exact⟨0,n,rfl,rfl,vU _,M,vV _,wL _⟩
 case round =>
  obtain⟨C,z,rfl,rfl,h1,h2,h3,E⟩:=hrel;by_cases aj:C<z
  ·obtain⟨y,H⟩:∃y,outs[(C+z) / 2]?=some y:=⟨_,vu (by have:=HN.out;omega)⟩;obtain⟨b,I,rfl,⟨X,cy,rfl⟩,l,m⟩:=Y.out wr E.out _ y H;have S:=ad.out _ y H;have U:=dJ m;obtain⟨d,hd⟩:=xJ (Rn.cmpOut y x);rw[hd]at U S;have ab:=dJ S;have U0:=fun u=>(l u).1;have U1:=fun u=>(l u).2.1;have U2:=fun u=>(l u).2.2.1;have U3:=fun u=>(l u).2.2.2.1;have U4:=fun u=>(l u).2.2.2.2;have X0:=fun u=>(r.out wr E.out u).1;have X1:=fun u=>(r.out wr E.out u).2.1;have X2:=fun u=>(r.out wr E.out u).2.2.1;have X3:=fun u=>(r.out wr E.out u).2.2.2.1;have X4:=fun u=>(r.out wr E.out u).2.2.2.2;have ah:(C+z) / 2<n:=by omega
   clear H l m S hd;by_cases N:d<0
   ·go_wp2;refine dc (by kernel_rfl) (by kernel_rfl) ?_;repeat (go_big_quiet_step ((rename_i u;go_at_call 50;exact di u (U.out u))))
    refine wpQuiet_nil ?_;intro w9 G;obtain⟨T,rfl⟩:=G;have O:=dJ (E.out.trans T.gr);clear U0 U1 U2 U3 U4 X0 X1 X2 X3 X4;go_wp2;have ag:(C+z) / 2<L:=ab.out.1 N;refine⟨⟨(C+z) / 2+1,z,by rw[show ((C:Int)+(z:Int)) / 2+1=(((C+z) / 2+1:Nat):Int) by omega],rfl,by omega,h2,h3,O⟩,by simp[intOf];omega⟩
   ·have ag:¬(C+z) / 2<L:=fun q=>N (ab.out.2 q);go_wp2;refine dc (by kernel_rfl) (by kernel_rfl) ?_;repeat (go_big_quiet_step ((rename_i u;go_at_call 50;exact di u (U.out u))))
    refine wpQuiet_nil ?_;intro w9 G;obtain⟨T,rfl⟩:=G;have O:=dJ (E.out.trans T.gr);clear U0 U1 U2 U3 U4 X0 X1 X2 X3 X4;go_wp2;refine⟨⟨C,(C+z) / 2,rfl,by rw[show ((C:Int)+(z:Int)) / 2=(((C+z) / 2:Nat):Int) by omega],h1,by omega,by omega,O⟩,by simp[intOf];omega⟩
  ·obtain rfl:C=L:=by omega
   obtain rfl:z=C:=by omega
   by_cases ai:z<n
   ·obtain⟨y,H⟩:∃y,outs[z]?=some y:=⟨_,vu (by have:=HN.out;omega)⟩;obtain⟨b,I,rfl,⟨X,cy,rfl⟩,l,m⟩:=Y.out wr E.out _ y H;have U:=dJ m;have hz:=Rn.isCmp_out.zero y x;obtain⟨d,hd⟩:=xJ (Rn.cmpOut y x);rw[hd]at U hz
    have Q:Hid (F=decide (d=0)):=by show _=_;rw[<-Z.out,H];simp[hz]
    have U0:=fun u=>(l u).1;have U1:=fun u=>(l u).2.1;have U2:=fun u=>(l u).2.2.1;have U3:=fun u=>(l u).2.2.2.1;have U4:=fun u=>(l u).2.2.2.2;have X0:=fun u=>(r.out wr E.out u).1;have X1:=fun u=>(r.out wr E.out u).2.1;have X2:=fun u=>(r.out wr E.out u).2.2.1;have X3:=fun u=>(r.out wr E.out u).2.2.2.1;have X4:=fun u=>(r.out wr E.out u).2.2.2.2;clear H l m hz hd;by_cases h0:d=0
    all_goals
     go_wp2;refine dc (by kernel_rfl) (by kernel_rfl) ?_;repeat (go_big_quiet_step ((rename_i u;go_at_call 50;exact di u (U.out u))))
     refine wpQuiet_nil ?_;intro w9 G;obtain⟨T,rfl⟩:=G;have O:=dJ (aa.out.trans (E.out.trans T.gr));clear U0 U1 U2 U3 U4 X0 X1 X2 X3 X4;go_wp2;go_ret2;refine⟨?_,O.out⟩;rw[Q.out];simp[h0]
   ·have Q:Hid (F=false):=by
     show _=_;rw[<-Z.out,vP (by have:=HN.out;omega)];simp
    go_wp2;refine dc (by kernel_rfl) (by kernel_rfl) ?_;repeat (go_big_quiet_step (fail))
    refine wpQuiet_nil ?_;intro w9 G;obtain⟨T,rfl⟩:=G;have O:=dJ (aa.out.trans (E.out.trans T.gr));go_wp2;go_ret2;refine⟨?_,O.out⟩;rw[Q.out];rfl
theorem nM:(prog.info? 22).map (fun i=>(i.zero,i.size,i.bytes))=some (some (.slice none 0 0),1,24):=by kernel_rfl
theorem jA {B0:Nat}{w:World}{f:Fn}{vf:Value}(hfn:FnAt B0 w vf f)(hB0:B0<=w.heap.size)(hf:VFn f){i:Rn.Inp}{va vm:Value}(ha:U32At B0 w va i.args)(hm:TabAt B0 w vm i.mem)(hi:Rn.validInput f i=0)(T:TypeId)(p:Value) :
  Calls prog 47 #[vf,.agg #[va,vm],.iface T p] w fun e w'=>∃c:Cfg,c.n₀=B0/\c.f=f/\c.ch=.iface T p/\e=.returned (.pointer (some ⟨c.Bs,0,none⟩))/\PS c w' (Rn.start f i) 0 (-1) (.slice none 0 0)/\Gr w w'/\(∀k,Kept c k->w.heap.size<=k)/\c.Bm<w'.heap.size:=by
 obtain⟨i0,b9,cx,cy,cz⟩:=info_parts dR;obtain⟨i1,cc,ct,cu,cv⟩:=info_parts nM;have cq:=Rn.valid_input hi;obtain⟨hv,bZ,ap,cr,b6⟩:=cq;have av:=hf.val.size
 have ag:Ref.count f<=1000:=by
  have e:Ref.count f=f.params.length+Ref.total f.blocks:=by unfold Ref.count Ref.number;rw[wg]
  omega
 have cj:f.params.length<=Ref.count f:=by unfold Ref.count Ref.number;omega
 have cC:f.blocks.length<=10:=av.2.2.2.1;have cL:1<=f.blocks.length:=by omega
 obtain⟨vp,vs,vb,rfl,hp,hs,hb⟩:=hfn;have bs:Hid (FnAt B0 w (.agg #[vp,.int .i64 f.ret,vs,vb]) f):=⟨vp,vs,vb,rfl,hp,hs,hb⟩;obtain⟨N,hN⟩:=xJ w.heap.size;rw[hN]at hB0;obtain⟨W0,aA⟩:=xJ (w.alloc (.cells #[vp,.int .i64 f.ret,vs,vb] 25));obtain⟨W1,aB⟩:=xJ (W0.alloc (.cells #[va,vm] 29));obtain⟨W2,aC⟩:=xJ (W1.alloc (.cells #[vp,.int .i64 f.ret,vs,vb,.iface T p,.slice none 0 0,.slice none 0 0,.slice none 0 0,.slice none 0 0,.int .i64 0,.int .i64 (-1),.int .i64 0,.slice none 0 0] 100));have s0:W0.heap.size=N+1:=by rw[<-aA,<-hN];simp
 have s1:W1.heap.size=N+2:=by rw[<-aB];simp[s0]
 have s2:W2.heap.size=N+3:=by rw[<-aC];simp[s1]
 have q0:W0.heap[N]?=some (.cells #[vp,.int .i64 f.ret,vs,vb] 25 (0,0)):=by rw[<-aA,<-hN];exact heap_alloc_new _ _
 have gA:Gr W0 W1:=by rw[<-aB];exact(wL _).alloc _
 have gB:Gr W1 W2:=by rw[<-aC];exact(wL _).alloc _
 have gW:Gr w W0:=by rw[<-aA];exact(wL _).alloc _
 have q1:W1.heap[N+1]?=some (.cells #[va,vm] 29 (0,0)):=by rw[<-aB,<-s0];exact heap_alloc_new _ _
 have aS:Hid (SS N w W2 vp f.ret vs vb (.iface T p) va vm (.slice none 0 0) (.slice none 0 0) (.slice none 0 0) (.slice none 0 0)):={
   gr:=(gW.trans gA).trans gB
   n:=hN.symm
   fb:=(gB.heap _ (by omega)).trans ((gA.heap _ (by omega)).trans q0)
   ib:=(gB.heap _ (by omega)).trans q1
   st:=by rw[<-aC,<-s1];exact heap_alloc_new _ _}
 obtain⟨Ap,cp,rfl,p1,p2,-⟩:=hp;obtain⟨As,cs,rfl,-,-,-⟩:=hs;obtain⟨Ab,cb,rfl,b1,b2,b3⟩:=hb;obtain⟨bb,ob,rfl,cM,b4⟩:=b3 (by omega)
 have bq:Hid (∀wr,Gr w wr->∀k l,f.blocks[k]?=some l->∃Al cl,wr.cell? ⟨bb,ob+k,none⟩=some (.slice Al l.length cl)):=fun wr g k l hl=>by obtain⟨u,U,Al,cl,rfl,-⟩:=b4 k l hl;exact⟨Al,cl,(g.cell _ _ (by omega)).trans U⟩
 have bB:Hid (∀k l,f.blocks[k]?=some l->Ref.number f (k+1)=Ref.number f k+l.length/\Ref.number f k+l.length<=1000):=fun k l hl=>⟨Ref.number_next f hl,by have:=Ref.number_count f hl;omega⟩;have HA:=dJ ha
 have ar:Hid (∀(k:Nat)(l:List Int),i.mem[k]?=some l->1<=l.length/\l.length<=8):=fun k l hl=>by have D:=congrArg (fun q=>q[k]?) ap;simp only[vH,hl,Option.map_some]at D;have L:=vT.1 hf.val.head.2 _ (vz D.symm);unfold Ref.isSlot at L;simp at L;omega
 have bx:Hid (∀wr,Gr w wr->∀(k:Nat)(l:List Int),i.mem[k]?=some l->∃bm om bl ol cl,vm=.slice (some ⟨bm,om,none⟩) i.mem.length (match vm with|.slice _ _ c=>c|_=>0)/\wr.cell? ⟨bm,om+k,none⟩=some (.slice (some ⟨bl,ol,none⟩) l.length cl)/\∀F,Gr wr F->∀j z,l[j]?=some z->F.cell? ⟨bl,ol+j,none⟩=some (.int .i64 z)):=fun wr g k l hl=>by obtain⟨A,c,rfl,-,-,h3⟩:=hm;obtain⟨b,o,rfl,hb,h4⟩:=h3 (by have:=(yC.1 hl).1;omega);obtain⟨u,U,Al,cl,rfl,-,-,h5⟩:=h4 k l hl;obtain⟨bl,ol,rfl,cO,h6⟩:=h5 (ar.out k l hl).1;exact⟨b,o,bl,ol,cl,rfl,(g.cell _ _ (by omega)).trans U,fun F W j z hz=>((g.trans W).cell _ _ (by omega)).trans (h6 j z hz)⟩
 have aR:Hid (i.mem.map (fun r=>(r.length:Int))=f.slots):=ap
 have bz:Hid (i.mem.length<=1000):=by show _<=_;have D:=congrArg List.length ap;rw[vS]at D;omega
 have aP:Hid (i.args.length<=Ref.count f):=by show _<=_;omega
 have bo:Hid (∀wr,Gr w wr->∀k x,i.args[k]?=some x->∃b o,va=.slice (some ⟨b,o,none⟩) i.args.length (match va with|.slice _ _ c=>c|_=>0)/\wr.cell? ⟨b,o+k,none⟩=some (.int .u32 x)):=fun wr g k x hx=>by obtain⟨A,c,rfl,-,-,h3⟩:=HA.out;obtain⟨b,o,rfl,hb,h4⟩:=h3 (by have:=(yC.1 hx).1;omega);exact⟨b,o,rfl,(g.cell _ _ (by omega)).trans (h4 k x hx)⟩
 have HM:=dJ hm;have HV:=dJ hf;have HI:=dJ hi;have bp:=dJ hB0;have C:=dJ hN;have bO:W0.cell? ⟨N,0,none⟩=some (.slice Ap f.params.length cp):=vX _ _ 0 _ _ _ q0
 have I:∀(i:Nat)(v:Value),(#[Value.slice Ap f.params.length cp,.int .i64 f.ret,.slice As f.slots.length cs,.slice (some ⟨bb,ob,none⟩) f.blocks.length cb]:Array Value)[i]?=some v->W1.cell? ⟨N,i,none⟩=some v/\W2.cell? ⟨N,i,none⟩=some v:=fun i v hv =>
  ⟨(vX _ _ i _ _ _ ((gA.heap _ (by omega)).trans q0)).trans hv,(vX _ _ i _ _ _ aS.out.fb).trans hv⟩
 obtain⟨x0,y0⟩:=I 0 _ rfl;obtain⟨x1,y1⟩:=I 1 _ rfl;obtain⟨x2,y2⟩:=I 2 _ rfl;obtain⟨x3,y3⟩:=I 3 _ rfl;obtain⟨Aa,ca,rfl,-,-,-⟩:=ha;obtain⟨ad,aa,rfl,-,-,-⟩:=hm;clear b3 b4 hi hv cr b6 av hN gA gB gW q0 q1 bZ ap bO I cj hf;rw[<-C.out]at s0 s1 s2 x0 x1 x2 x3 y0 y1 y2 y3
 go_enter func47, ntmps47
 go_wp2
 go_loopw [8,25] (fun s8 aK wr=>∃(k:Nat)(A:Option Addr)(c:Nat),k<=f.blocks.length/\aK=.int .i64 (k:Int)/\s8=.int .i64 (Ref.number f k:Nat) /\
     Hid (SS N w wr (.slice Ap f.params.length cp) f.ret (.slice As f.slots.length cs) (.slice (some ⟨bb,ob,none⟩) f.blocks.length cb) (.iface T p) (.slice Aa i.args.length ca) (.slice ad i.mem.length aa) (.slice none 0 0) (.slice none 0 0) (.slice A k c) (.slice none 0 0)) /\
     Hid (Own1 (N+3) 3 wr (.slice A k c) (frL f k))) (fun _ aK _=>f.blocks.length-(intOf aK).toNat)
 case atStart=>exact⟨0,none,0,vU _,rfl,by (congr 1),aS,Own1.nil _ _ _⟩
 case round =>
  obtain⟨k,A,c,hk,rfl,rfl,d,m⟩:=hrel;by_cases Y:k<f.blocks.length
  ·obtain⟨l,hl⟩:∃l,f.blocks[k]?=some l:=⟨_,vu Y⟩;obtain⟨Al,cl,b7⟩:=bq.out wr d.out.gr k l hl;obtain⟨n1,n2⟩:=bB.out k l hl;have c7:wr.cell? ⟨w.heap.size+2,7,none⟩=some (.slice A k c):=by rw[C.out];exact vX _ _ 7 _ _ _ d.out.st
   have bA:Hid ((Ref.number f (k+1):Nat)=Ref.number f k+l.length):=n1;obtain⟨q,H⟩:=xJ (Ref.number f k);have HQ:=dJ H;rw[H]at n2;rw[H];clear hl n1 H;go_wp2_with (at_builtin;refine lB (n:=k) (v:=.slice A k c) underlying22 b9 cx cy cz rfl (by omega) rfl (.tmp 33) (.tmp 35) rfl (lU f k) rfl m.out rfl rfl (by omega) (by have:=d.out.lt;omega) ?_;intro J K Q ab aj af;have ao:=dJ (d.out.push m.out aj ab);have cT:Q.cell? ⟨w.heap.size+2,7,none⟩=some (.slice A k c):=(by rw[C.out];exact vX _ _ 7 _ _ _ ao.out.1.st);have aq:Q.frozen? ⟨w.heap.size+2,7,none⟩=false:=(by rw[C.out];exact vY _ _ 7 _ _ ao.out.1.st);clear ab aj af)
   have bG:Hid (SS N w (Q.setCell ⟨w.heap.size+2,7,none⟩ (.slice J (k+1) K)) (.slice Ap f.params.length cp) f.ret (.slice As f.slots.length cs) (.slice (some ⟨bb,ob,none⟩) f.blocks.length cb) (.iface T p) (.slice Aa i.args.length ca) (.slice ad i.mem.length aa) (.slice none 0 0) (.slice none 0 0) (.slice J (k+1) K) (.slice none 0 0)):=by rw[C.out];exact ao.out.1.put 7 _ rfl
   have bC:Hid (Own1 (N+3) 3 (Q.setCell ⟨w.heap.size+2,7,none⟩ (.slice J (k+1) K)) (.slice J (k+1) K) (frL f (k+1))):=by rw[C.out,rq,HQ.out];exact ao.out.2.1 7
   refine⟨⟨k+1,J,K,by omega,by go_num,by rw[bA.out,HQ.out];go_num,bG,bC⟩,by simp[intOf];omega⟩
  ·obtain rfl:k=f.blocks.length:=by omega
   obtain⟨n,hn⟩:=xJ (Ref.count f);have a8:Ref.number f f.blocks.length=n:=hn;have an:=dJ hn;rw[hn]at ag;rw[a8];clear hn a8 Y hk;obtain⟨Wa,bW⟩:∃Wa,Wa=wr:=⟨_,rfl⟩;subst bW;have bT:=fun T=>ff T n ag;have bE:Hid (Array.replicate n (Value.bool false)=((List.replicate n false).map Value.bool).toArray):=by (show _=_);simp
   have bS:=fun T=>mO T n ag;have bU:N+2<Wa.heap.size:=by have:=d.out.lt;omega
   have a5:Wa.cell? ⟨w.heap.size+2,5,none⟩=some (.slice none 0 0):=by rw[C.out];exact vX _ _ 5 _ _ _ d.out.st
   have a6:Wa.cell? ⟨w.heap.size+2,6,none⟩=some (.slice none 0 0):=by rw[C.out];exact vX _ _ 6 _ _ _ d.out.st
   have z5:Wa.frozen? ⟨w.heap.size+2,5,none⟩=false:=by rw[C.out];exact vY _ _ 5 _ _ d.out.st
   have z6:Wa.frozen? ⟨w.heap.size+2,6,none⟩=false:=by rw[C.out];exact vY _ _ 6 _ _ d.out.st
   have cK:w.heap.size+2<Wa.heap.size:=by rw[C.out];exact bU
   go_wp2
   go_cut [] (fun wx=>∃Bv Bh:Nat,Hid (MK N Wa wx (tZ (.slice Ap f.params.length cp) f.ret (.slice As f.slots.length cs) (.slice (some ⟨bb,ob,none⟩) f.blocks.length cb) (.iface T p) (.slice (some ⟨Bv,0,none⟩) n n) (.slice (some ⟨Bh,0,none⟩) n n) (.slice A f.blocks.length c) (.slice none 0 0)) [(Bv,.cells (dy (List.replicate n Rn.zero)).toArray 37 (0,0)),(Bh,.cells ((List.replicate n false).map Value.bool).toArray 4 (0,0))]))
   case first =>
    go_region_with (fail)
    all_goals go_wp2
    all_goals go_meet
    all_goals rw[bE.out,C.out]
    all_goals first
     | exact⟨Wa.heap.size,Wa.heap.size+1,sG d.out.st _ _ _ _ _ _⟩
     | exact⟨Wa.heap.size+1,Wa.heap.size,(sG d.out.st _ _ _ _ _ _).mono (by intro q H;simp at H ⊢;exact H.symm)⟩
   case rest =>
    obtain⟨Bv,Bh,al⟩:=hcut;obtain⟨Wc,bX⟩:∃Wc,Wc=wc:=⟨_,rfl⟩;subst bX;have ai:=al.out.fr;obtain⟨aH,bj⟩:=al.out.at_ _ (List.mem_cons_self);obtain⟨aE,a3⟩:=al.out.at_ _ (List.mem_cons_of_mem _ (List.mem_cons_self))
    have aY:Hid (SS N w Wc (.slice Ap f.params.length cp) f.ret (.slice As f.slots.length cs) (.slice (some ⟨bb,ob,none⟩) f.blocks.length cb) (.iface T p) (.slice Aa i.args.length ca) (.slice ad i.mem.length aa) (.slice (some ⟨Bv,0,none⟩) n n) (.slice (some ⟨Bh,0,none⟩) n n) (.slice A f.blocks.length c) (.slice none 0 0)):={
      gr:=Gr.below d.out.gr (ai.below (n:=N+2) (fun k hk=>by omega) (by omega)) (by rw[C.out];omega)
      n:=C.out.symm
      fb:=(ai.block _ (by omega) (by omega)).trans d.out.fb
      ib:=(ai.block _ (by omega) (by omega)).trans d.out.ib
      st:=al.out.st}
    have bV:Hid (Own1 (N+3) 3 Wc (.slice A f.blocks.length c) (frL f f.blocks.length)):=dr m.out fun k hk=>ai.block k (dg m.out hk).2.1 (by have:=(dg m.out hk).1;omega);have bR:N+3<=Bv:=by have:Wa.heap.size<=Bv:=bj;omega
    have bQ:N+3<=Bh:=by have:Wa.heap.size<=Bh:=a3;omega
    have am:Bv≠Bh:=dn aH aE (by decide);have bK:Hid (Wc.heap[Bv]?=some (.cells (dy (eu Rn.zero (i.args.map Rn.word) n 0)).toArray 37 (0,0))):=by (show _=_);rw[fB];exact aH
    have bu:Hid (Wc.heap[Bh]?=some (.cells ((eu false (i.args.map fun _=>true) n 0).map Value.bool).toArray 4 (0,0))):=by (show _=_);rw[fB];exact aE
    have aZ:i.args.length<=n:=by have:=aP.out;have:=an.out;omega
    have c0:Wc.cell? ⟨w.heap.size+1,0,none⟩=some (.slice Aa i.args.length ca):=by rw[C.out];exact vX _ _ 0 _ _ _ aY.out.ib
    clear al ai aH bj aE a3 d m a5 a6 z5 z6 bT bS;go_wp2
    go_loopw [57] (fun aL wr=>∃k:Nat,k<=i.args.length/\aL=.int .i64 (k:Int) /\
        Hid (SS N w wr (.slice Ap f.params.length cp) f.ret (.slice As f.slots.length cs) (.slice (some ⟨bb,ob,none⟩) f.blocks.length cb) (.iface T p) (.slice Aa i.args.length ca) (.slice ad i.mem.length aa) (.slice (some ⟨Bv,0,none⟩) n n) (.slice (some ⟨Bh,0,none⟩) n n) (.slice A f.blocks.length c) (.slice none 0 0)) /\
        Hid (Own1 (N+3) 3 wr (.slice A f.blocks.length c) (frL f f.blocks.length))/\Hid (wr.heap[Bv]?=some (.cells (dy (eu Rn.zero (i.args.map Rn.word) n k)).toArray 37 (0,0))) /\
        Hid (wr.heap[Bh]?=some (.cells ((eu false (i.args.map fun _=>true) n k).map Value.bool).toArray 4 (0,0)))) (fun aL _=>i.args.length-(intOf aL).toNat)
    case atStart=>exact⟨0,vU _,rfl,aY,bV,bK,bu⟩
    case round =>
     obtain⟨k,hk,rfl,d,m,hv,hh⟩:=hrel;by_cases Y:k<i.args.length
     ·obtain⟨x,hx⟩:∃x,i.args[k]?=some x:=⟨_,vu Y⟩;obtain⟨ba,oa,aI,cP⟩:=bo.out wr d.out.gr k x hx;injection aI with aI _ _;subst aI;have c5:wr.cell? ⟨w.heap.size+2,5,none⟩=some (.slice (some ⟨Bv,0,none⟩) n n):=by rw[C.out];exact vX _ _ 5 _ _ _ d.out.st
      have c6:wr.cell? ⟨w.heap.size+2,6,none⟩=some (.slice (some ⟨Bh,0,none⟩) n n):=by rw[C.out];exact vX _ _ 6 _ _ _ d.out.st
      have a4:k<n:=by omega
      obtain⟨y,hy⟩:∃y,(eu Rn.zero (i.args.map Rn.word) n k)[k]?=some y:=⟨_,vu (by rw[fo _ _ _ _ (by simp;omega) (by simp;omega)];exact a4)⟩;obtain⟨z,hz⟩:∃z,(eu false (i.args.map fun _=>true) n k)[k]?=some z:=⟨_,vu (by rw[fo _ _ _ _ (by simp;omega) (by simp;omega)];exact a4)⟩;obtain⟨aq,aN,aO⟩:=dZ _ _ _ hy;rw[Nat.mul_comm]at aq aN aO;have d0:wr.cell? ⟨Bv,k*3,none⟩=some (.bool y.p):=(vX _ _ _ _ _ _ hv.out).trans (by simpa using aq);have d1:wr.cell? ⟨Bv,k*3+1,none⟩=some (.int .i64 y.s):=(vX _ _ _ _ _ _ hv.out).trans (by simpa using aN);have d2:wr.cell? ⟨Bv,k*3+2,none⟩=some (.int .u32 y.n):=(vX _ _ _ _ _ _ hv.out).trans (by simpa using aO);have e0:wr.cell? ⟨Bh,k,none⟩=some (.bool z):=(vX _ _ _ _ _ _ hh.out).trans (by simp[hz]);have f0:wr.frozen? ⟨Bv,k*3,none⟩=false:=vY _ _ _ _ _ hv.out;have f1:wr.frozen? ⟨Bv,k*3+1,none⟩=false:=vY _ _ _ _ _ hv.out;have f2:wr.frozen? ⟨Bv,k*3+2,none⟩=false:=vY _ _ _ _ _ hv.out;have f3:wr.frozen? ⟨Bh,k,none⟩=false:=vY _ _ _ _ _ hh.out;have n1:w.heap.size+2≠Bv:=by rw[C.out];omega
      have n2:w.heap.size+2≠Bh:=by rw[C.out];omega
      have bg:=cX (i:=k*3) (.bool false) hv.out;have bh:=cX (i:=k*3+1) (.int .i64 0) bg;have bi:=cX (i:=k*3+2) (.int .u32 x) bh;have er:=gp (eu Rn.zero (i.args.map Rn.word) n k) k (Rn.word x);rw[fA Rn.zero (i.args.map Rn.word) n k (by simp;omega) (Rn.word x) (by rw[vH,hx];rfl)]at er;have ay:=jY (eu false (i.args.map fun _=>true) n k) k;rw[fA false (i.args.map fun _=>true) n k (by simp;omega) true (by rw[vH,hx];rfl)]at ay;obtain⟨W9,aD⟩:=xJ (((((wr.setCell ⟨Bv,k*3,none⟩ (.bool false)).setCell ⟨Bv,k*3+1,none⟩ (.int .i64 0)).setCell ⟨Bv,k*3+2,none⟩ (.int .u32 x)).setCell ⟨Bh,k,none⟩ (.bool true)))
      have az:FrS (fun q=>q=Bv\/q=Bh) wr W9:=by rw[<-aD];exact((((FrS.refl (fun q=>q=Bv\/q=Bh) wr).setCell (p:=⟨Bv,k*3,none⟩) (.inl rfl) _).setCell (p:=⟨Bv,k*3+1,none⟩) (.inl rfl) _).setCell (p:=⟨Bv,k*3+2,none⟩) (.inl rfl) _).setCell (p:=⟨Bh,k,none⟩) (.inr rfl) _
      have bL:Hid (W9.drew.heap[Bv]?=some (.cells (dy (eu Rn.zero (i.args.map Rn.word) n (k+1))).toArray 37 (0,0))):=by show W9.heap[Bv]?=_;rw[<-er,<-aD];exact(wk _ _ _ _ am).trans bi
      have bv:Hid (W9.drew.heap[Bh]?=some (.cells ((eu false (i.args.map fun _=>true) n (k+1)).map Value.bool).toArray 4 (0,0))):=by show W9.heap[Bh]?=_;rw[<-ay,<-aD];exact cX (i:=k) (.bool true) ((wk _ _ _ _ am.symm).trans ((wk _ _ _ _ am.symm).trans ((wk _ _ _ _ am.symm).trans hh.out)))
      have bH:=dJ ((d.out.keep az (fun q H=>H.elim (fun e=>by omega) (fun e=>by omega))).grow ((wL W9).drew))
      have bD:Hid (Own1 (N+3) 3 W9.drew (.slice A f.blocks.length c) (frL f f.blocks.length)):=dr m.out fun q H=>az.drew.block q (dg m.out H).2.1 (by
        obtain⟨-,-,B,ht⟩:=dg m.out H
        rintro (e|e)
        · subst e;exact dn ht hv.out (by decide) rfl
        · subst e;exact dn ht hh.out (by decide) rfl)
      clear hx hy hz aq aN aO bg bh bi er ay d m hv hh az;go_wp2
      go_region_with (fail)
      all_goals go_wp2
      all_goals exact⟨⟨k+1,by omega,by go_num,bH,bD,bL,bv⟩,by simp[intOf];omega⟩
     ·obtain rfl:k=i.args.length:=by omega
      obtain⟨We,bY⟩:∃We,We=wr:=⟨_,rfl⟩;subst bY
      have bM:Hid (We.heap[Bv]?=some (.cells (dy (Rn.start f i).vals).toArray 37 (0,0))):=by show _=_;rw[hv.out];unfold eu Rn.start;rw[an.out,vO (by simp)]
      have bw:Hid (We.heap[Bh]?=some (.cells ((Rn.start f i).had.map Value.bool).toArray 4 (0,0))):=by show _=_;rw[hh.out];unfold eu Rn.start;rw[an.out,vO (by simp)]
      have c1:We.cell? ⟨w.heap.size+1,1,none⟩=some (.slice ad i.mem.length aa):=by rw[C.out];exact vX _ _ 1 _ _ _ d.out.ib
      clear hv hh Y hk aZ;go_wp2
      go_loopw [80] (fun aM wr=>∃(k:Nat)(us:List (Nat × Nat))(A8:Option Addr)(c8:Nat),k<=i.mem.length/\aM=.int .i64 (k:Int)/\us.length=k /\
          Hid (SS N w wr (.slice Ap f.params.length cp) f.ret (.slice As f.slots.length cs) (.slice (some ⟨bb,ob,none⟩) f.blocks.length cb) (.iface T p) (.slice Aa i.args.length ca) (.slice ad i.mem.length aa) (.slice (some ⟨Bv,0,none⟩) n n) (.slice (some ⟨Bh,0,none⟩) n n) (.slice A f.blocks.length c) (.slice A8 k c8)) /\
          Hid (Own1 (N+3) 3 wr (.slice A f.blocks.length c) (frL f f.blocks.length))/\Hid (wr.heap[Bv]?=some (.cells (dy (Rn.start f i).vals).toArray 37 (0,0))) /\
          Hid (wr.heap[Bh]?=some (.cells ((Rn.start f i).had.map Value.bool).toArray 4 (0,0))) /\
          Hid (MU N wr us i.mem (.slice A f.blocks.length c))/\Hid (Own1 (N+3) 22 wr (.slice A8 k c8) (usV us i.mem))) (fun aM _=>i.mem.length-(intOf aM).toNat)
      case atStart=>exact⟨0,[],none,0,vU _,rfl,rfl,d,m,bM,bw,MU.nil _ _ _ _,Own1.nil _ _ _⟩
      case round =>
       obtain⟨k,us,A8,c8,hk,rfl,M,d,m,hv,hh,G,O⟩:=hrel;by_cases Y:k<i.mem.length
       ·obtain⟨l,hl⟩:∃l,i.mem[k]?=some l:=⟨_,vu Y⟩;obtain⟨bm,om,bl,ol,cl,aJ,cQ,a1⟩:=bx.out wr d.out.gr k l hl;injection aJ with aJ _ _;subst aJ;obtain⟨l1,l2⟩:=ar.out k l hl
        have CL:Hid (∀F,Gr wr F->Calls prog 85 #[.slice (some ⟨bl,ol,none⟩) l.length cl] F fun e w'=>∃b' E:Nat,e=.returned (.slice (some ⟨b',0,none⟩) l.length E)/\(F.heap.size<=b'/\l.length<=E/\E<=9223372036854775807/\∃B:Array Value,w'.heap[b']?=some (.cells B 3 (0,0))/\∀(i:Nat)(z:Int),l[i]?=some z->B[i]?=some (.int .i64 z))/\Gr F w'):=fun F W=>by
         refine(Tryz.slices_Clone_int bl ol l.length cl l F (vV _) (by omega) (fun j X=>by
           rw[vA,vu X]
           exact a1 F W j _ (vu X))).mono ?_
         rintro e w' ⟨v',rfl,ho,cg,a0⟩;obtain⟨o1,o2⟩:=ho;rcases o2 with ⟨rfl,-⟩|⟨g,E,B,rfl,hg,hc,h3,h4,h5,h6⟩
         ·exact absurd rfl cg
         ·refine⟨g,E,rfl,⟨hg,h3,by unfold maxLen at h4;omega,B,hc,fun q z hz=>?_⟩,a0⟩;have H:=(yC.1 hz).1;have h7:=congrArg (fun r=>r[q]?) h6;simp only[vL,vH,wg,hz,Option.map_some,Nat.mul_one,wa H]at h7;simpa using h7
        have ac:Hid (∀F,Gr wr F->Own1 (N+3) 22 F (.slice A8 k c8) (usV us i.mem)/\F.cell? ⟨w.heap.size+2,8,none⟩=some (.slice A8 k c8)/\F.frozen? ⟨w.heap.size+2,8,none⟩=false/\N+3<=F.heap.size):=fun F W=>by have D:=d.out.grow W;exact⟨O.out.gr W,by rw[C.out];exact vX _ _ 8 _ _ _ D.st,by rw[C.out];exact vY _ _ 8 _ _ D.st,D.lt⟩
        have aQ:Hid (∀(F Q:World)(bk:Obj)(b' E:Nat)(J:Option Addr)(K:Nat),Gr wr F->(wr.heap.size<=b'/\l.length<=E/\E<=9223372036854775807/\∃B:Array Value,F.heap[b']?=some (.cells B 3 (0,0))/\∀(i:Nat)(z:Int),l[i]?=some z->B[i]?=some (.int .i64 z)) ->
            (F.alloc bk).grownBy Q (Value.slice A8 k c8).ownBlock->Own1 (N+3) 22 Q (.slice J (k+1) K) (usV us i.mem++[.slice (some ⟨b',0,none⟩) l.length E]) ->
            (Q.cell? ⟨w.heap.size+2,8,none⟩=some (.slice A8 k c8)/\Q.frozen? ⟨w.heap.size+2,8,none⟩=false) /\
            SS N w (Q.setCell ⟨w.heap.size+2,8,none⟩ (.slice J (k+1) K)) (.slice Ap f.params.length cp) f.ret (.slice As f.slots.length cs) (.slice (some ⟨bb,ob,none⟩) f.blocks.length cb) (.iface T p) (.slice Aa i.args.length ca) (.slice (some ⟨bm,om,none⟩) i.mem.length aa) (.slice (some ⟨Bv,0,none⟩) n n) (.slice (some ⟨Bh,0,none⟩) n n) (.slice A f.blocks.length c) (.slice J (k+1) K) /\
            Own1 (N+3) 3 (Q.setCell ⟨w.heap.size+2,8,none⟩ (.slice J (k+1) K)) (.slice A f.blocks.length c) (frL f f.blocks.length)/\((Q.setCell ⟨w.heap.size+2,8,none⟩ (.slice J (k+1) K)).heap[Bv]?=some (.cells (dy (Rn.start f i).vals).toArray 37 (0,0))) /\
            ((Q.setCell ⟨w.heap.size+2,8,none⟩ (.slice J (k+1) K)).heap[Bh]?=some (.cells ((Rn.start f i).had.map Value.bool).toArray 4 (0,0))) /\
            MU N (Q.setCell ⟨w.heap.size+2,8,none⟩ (.slice J (k+1) K)) (us++[(b',E)]) i.mem (.slice A f.blocks.length c)/\Own1 (N+3) 22 (Q.setCell ⟨w.heap.size+2,8,none⟩ (.slice J (k+1) K)) (.slice J (k+1) K) (usV (us++[(b',E)]) i.mem)):=by
         intro F Q bk b' E J K W b0 hg ab;rw[C.out];have cn:=d.out.grow W;have bc:=O.out.gr W;obtain⟨p1,p2,p3⟩:=cn.push bc hg ab;have hF:=p3 8
         have a9:∀{q:Nat} {B:Array Value} {t:TypeId},F.heap[q]?=some (.cells B t (0,0))->t≠22->N+3<=q->¬((Value.slice A8 k c8).ownBlock=some q\/q=N+2):=by
          rintro q B t H ht aX (e|e)
          ·obtain⟨-,-,ae,co⟩:=dg bc e;exact dn H co ht rfl
          ·omega
         have Z:∀{q:Nat} {B:Array Value} {t:TypeId},F.heap[q]?=some (.cells B t (0,0))->t≠22->N+3<=q->(Q.setCell ⟨N+2,8,none⟩ (.slice J (k+1) K)).heap[q]?=some (.cells B t (0,0)):=fun H ht aX=>(hF.block _ (cY H) (a9 H ht aX)).trans H;obtain⟨b1,b2,bN,B,aT,b5⟩:=b0;have a7:=d.out.lt;have cF:=W.size;have cG:F.heap.size<=(Q.setCell ⟨N+2,8,none⟩ (.slice J (k+1) K)).heap.size:=hF.size;refine⟨⟨vX _ _ 8 _ _ _ p1.st,vY _ _ 8 _ _ p1.st⟩,p1.put 8 _ rfl,dr m.out fun q H=>?_,Z ((W.heap _ (cY hv.out)).trans hv.out) (by decide) bR,Z ((W.heap _ (cY hh.out)).trans hh.out) (by decide) bQ,⟨?_,?_,?_,?_⟩,?_⟩
         ·obtain⟨D,L,ae,h3⟩:=dg m.out H;exact(Z ((W.heap _ L).trans h3) (by decide) D).trans h3.symm
         ·intro j b S l' D L;rcases wh j us.length with X|X
          ·rw[vJ X]at D;obtain⟨r1,r2,r3,ae,r4,r5⟩:=G.out.row j b S l' D L;exact⟨r1,r2,r3,ae,Z ((W.heap _ (cY r4)).trans r4) (by decide) r1,r5⟩
          ·rw[vK X]at D
           obtain rfl:j=us.length:=by
            rcases wh us.length j with q|q
            ·rw[vP (by simp;omega)]at D;cases D
            ·omega
           rw[Nat.sub_self]at D;simp at D;obtain⟨rfl,rfl⟩:=D;rw[M,hl]at L;injection L with L;subst L;exact⟨by omega,b2,bN,B,Z aT (by decide) (by omega),b5⟩
         ·rw[List.map_append,List.nodup_append];refine⟨G.out.apart,by simp,fun a ha b hb=>?_⟩;simp at hb;subst hb;obtain⟨u,U,rfl⟩:=List.mem_map.1 ha;have:=G.out.all u U;omega
         ·intro u U;rcases yE.1 U with U|U
          ·exact G.out.off u U
          ·simp at U;subst U;intro e;have:=(dg m.out e).2.1;dsimp only at this;omega
         ·intro u U;rcases yE.1 U with U|U
          ·have:=G.out.all u U;omega
          ·simp at U;subst U;have:=cY aT;show b'<_;omega
         ·rw[kg us i.mem (b',E) l (by rw[M];exact hl)];exact p2 8
        have aG:(usV us i.mem).length=k:=by rw[gF _ _ (by omega),M]
        have bI:=dJ aG;have mixed:(prog).follows .mixedOrders=true:=by kernel_rfl
        obtain⟨-,o8,z8,-⟩:=ac.out wr (wL _);have Q8:=fun o=>(ac.out (wr.drew.alloc o) (((wL wr).drew).alloc o)).2.1;have be:(us++[((0:Nat),(0:Nat))]).length=k+1:=by simp[M]
        have bJ:Hid (∀u:Nat × Nat,(us++[u]).length=k+1):=fun u=>by simp[M]
        have bn:k<1000000:=by have:=HI.out;have h3:=aG;have:i.mem.length<=1000:=bz.out;omega
        clear hl M d m hv hh G O a1 aG be;go_wp2
        go_region_law_o (first|(refine oG rfl (f:=85) (args:=#[.slice (some ⟨bl,ol,none⟩) l.length cl]) (by simp[go_sem,Act.eval,Act.put]) ((CL.out _ ((wL wr).drew)).mono ?_);rintro e F ⟨b',E,rfl,bd,W⟩;refine⟨_,rfl,?_⟩;have G1:Hid (Gr wr F):=((wL wr).drew).trans W;have bF:=dJ bd;have ax:=dJ (ac.out F G1.out);have cS:=ax.out.2.1;have cH:=fun o=>(ac.out (F.alloc o) (G1.out.alloc o)).2.1;clear bd W)|(refine gE (n:=k) (v:=.slice A8 k c8) underlying27 cc ct cu cv rfl (by omega) rfl (.tmp 88) (.tmp 91) rfl bI.out rfl ax.out.1 rfl rfl (by omega) ax.out.2.2.2 ?_;intro J K Q ab aj af;have aw:=dJ (aQ.out F Q _ b' E J K G1.out bF.out aj ab);have cU:=aw.out.1.1;have cV:=aw.out.1.2;clear ab aj af))
        all_goals go_wp2
        all_goals
         obtain⟨-,j1,j2,j3,j4,j5,j6⟩:=aw.out;exact⟨⟨k+1,us++[(b',E)],J,K,by omega,by go_num,bJ.out _,j1,j2,j3,j4,j5,j6⟩,by simp[intOf];omega⟩
       ·obtain rfl:k=i.mem.length:=by omega
        have a2:∃c9:Cfg,c9.n₀=B0/\c9.f=f/\c9.ch=.iface T p/\c9.Bs=w.heap.size+2/\PS c9 wr (Rn.start f i) 0 (-1) (.slice none 0 0)/\(∀k,Kept c9 k->w.heap.size<=k)/\c9.Bm<wr.heap.size:=by
         have a7:=d.out.lt;have cJ:=C.out;have cA:B0<=N:=bp.out;obtain⟨bf,bP,cN,cE,b8⟩:=dz (by have:=m.out;unfold Own1 at this;rw[lU]at this;exact this) rfl (by omega:0<f.blocks.length);subst bP;obtain⟨-,ck⟩:=id m.out;have cD:N+3<=bf:=(dg m.out (k:=bf) rfl).1;obtain⟨aU,ah⟩:=(dg m.out (k:=bf) rfl).2.2
         have au:f.blocks.length<=c/\c<=9223372036854775807:=by
          rcases ck with ⟨e,-⟩|⟨g,E,B,e,-,-,D,L,-⟩
          ·cases e
          ·injection e with _ e1 e2;unfold maxLen at L;rw[lU]at D;omega
         have ci:i.mem.length<=c8/\c8<=9223372036854775807:=by
          obtain⟨-,hr⟩:=id O.out;rcases hr with ⟨e,h0⟩|⟨g,E,B,e,-,-,D,L,-⟩
          ·injection e with _ e1 e2;omega
          ·injection e with _ e1 e2;unfold maxLen at L;rw[gF _ _ (by omega),M]at D;omega
         obtain⟨Bm,cB,aV,aW⟩:∃Bm:Nat,N+2<=Bm/\Bm<wr.heap.size/\(0<us.length->A8=some ⟨Bm,0,none⟩/\∃B:Array Value,wr.heap[Bm]?=some (.cells B 22 (0,0))/\∀j v,(usV us i.mem)[j]?=some v->B[j]?=some v):=by
          by_cases h0:0<us.length
          ·obtain⟨-,hr⟩:=id O.out;rcases hr with ⟨e,D⟩|⟨g,E,B,e,D,L,-,-,-,h3⟩
           ·rw[gF _ _ (by omega)]at D;omega
           ·injection e with e1 _ _;refine⟨g,by omega,cY L,fun _=>⟨e1,B,L,fun j v X=>?_⟩⟩;rw[<-h3,vL]at X;split at X
            ·simpa using X
            ·cases X
          ·exact⟨N+2,vV _,by omega,fun q=>absurd q h0⟩
         have cI:us.length=0->A8=none\/True:=fun _=>.inr trivial;have cR:Bv≠Bh:=am;refine⟨{n₀:=B0,f:=f,vp:=.slice Ap f.params.length cp,vs:=.slice As f.slots.length cs,vb:=.slice (some ⟨bb,ob,none⟩) f.blocks.length cb,ch:=.iface T p,Bf:=bf,cf:=c,Am:=A8,Bm:=Bm,cm:=c8,us:=us,Bs:=N+2,Bv:=Bv,Bh:=Bh},rfl,rfl,rfl,by show N+2=_;omega,?_,?_,aV⟩
         ·exact {
             st:=by
               have D:=d.out.st
               have e1:(Rn.start f i).vals.length=n:=by
                 have:=aP.out
                 have:=an.out
                 unfold Rn.start;simp;omega
               rw[e1]
               show wr.heap[N+2]?=_
               rw[D]
               unfold tZ oE Cfg.first Cfg.mv
               dsimp only
               rw[M];rfl
             vals:=hv.out
             had:=hh.out
             hlen:=by unfold Rn.start;simp
             mem:=⟨by show i.mem.length=us.length;omega,fun j b S l' D L=>by
               obtain⟨r1,r2,r3,r4⟩:=G.out.row j b S l' D L
               exact⟨r2,r3,r4⟩⟩
             slots:=⟨by show us.length<=c8;omega,ci.2,fun cd=>by
               obtain⟨q1,B,q2,q3⟩:=aW cd
               refine⟨q1,B,q2,fun j b S z D L=>q3 j _ ?_⟩
               have hz:i.mem[j]?.map (fun r=>(r.length:Int))=some z:=by rw[<-vH,aR.out];exact L
               obtain⟨l',ak,cw⟩:=Option.map_eq_some_iff.1 hz
               unfold usV
               rw[List.getElem?_zipWith,D,ak,<-cw]
               rfl⟩
             fn:=bs.out.below (Below.mono d.out.gr (by omega))
             first:=⟨au.1,au.2,aU,ah,fun j X=>by
               have aF:j<f.blocks.length:=X
               have D:=b8 j (by omega)
               rw[vX _ _ j _ _ _ ah]at D
               rw[D]
               unfold frL
               rw[vH,List.getElem?_range aF];rfl⟩
             old:=⟨by show B0<=N+2;omega,by show B0<=Bv;omega,by show B0<=Bh;omega,by show B0<=bf;omega,by show B0<=Bm;omega,fun j b S D=>by
               have ce:=vz D
               have X:=(yC.1 D).1
               obtain⟨l',ak⟩:∃l',i.mem[j]?=some l':=⟨_,vu (by have:us.length=i.mem.length:=M;have aF:j<us.length:=X;omega)⟩
               have r1:=(G.out.row j b S l' D ak).1
               refine⟨by show B0<=b;omega,fun e=>?_⟩
               have e':b=bf:=e
               exact G.out.off (b,S) ce (by rw[e'];rfl)⟩
             apart:=G.out.apart}
         ·intro q H;rcases H with (e|e|e|⟨j,S,D⟩)|e|e
          ·have e':q=N+2:=e;omega
          ·have e':q=Bv:=e;omega
          ·have e':q=Bh:=e;omega
          ·have X:=(yC.1 D).1;obtain⟨l',ak⟩:∃l',i.mem[j]?=some l':=⟨_,vu (by have:us.length=i.mem.length:=M;have aF:j<us.length:=X;omega)⟩;have r1:=(G.out.row j q S l' D ak).1;omega
          ·have e':q=bf:=e;omega
          ·have e':q=Bm:=e;omega
        obtain⟨c9,e1,e2,e3,e4,e5,e6,e7⟩:=a2;have R:=dJ (And.intro e5 (And.intro d.out.gr (And.intro e6 e7)));have br:=dJ e4;clear e5 e6 e7 d m hv hh G O Y hk;go_wp2;go_ret;exact⟨c9,e1,e2,e3,by (show _=Ending.returned (.pointer (some ⟨c9.Bs,0,none⟩)));rw[br.out];rfl,R.out.1,R.out.2.1,R.out.2.2.1,R.out.2.2.2⟩
theorem tJ (b:Int)(w:World):Calls prog 41 #[.int .i64 b] w (RT (.bool (decide (b < -1) || decide (255<b))) w):=by
 by_cases d:b < -1
 ·go_enter func41, ntmps41
  go_wp2;go_ret;exact⟨cZ (by simp[d]),rfl⟩
 ·by_cases g:255<b
  all_goals
   go_enter func41, ntmps41
   go_wp2;go_ret;exact⟨cZ (by simp[d,g]),rfl⟩
theorem ub {B:Nat}{w:World}{v:Value}{zs:List Int}(hv:IntsAt B w v zs):Calls prog 40 #[v,.func (.func 41) #[] #[]] w (RG (.bool (zs.any fun b=>decide (b < -1) || decide (255<b))) w):=by
 obtain⟨A,c,rfl,r,t,m⟩:=hv;rcases Nat.eq_zero_or_pos zs.length with l|d
 ·obtain rfl:=wu l;exact(wK (α:=Int) A c _ w).mono fun e w' h=>⟨h.1,by rw[h.2];exact wL _⟩
 ·obtain⟨b,o,rfl,u,p⟩:=m d
  refine(wJ (fun z:Int=>Value.int .i64 z) (fun b=>decide (b < -1) || decide (255<b)) 41 #[] (fun args w=>by kernel_rfl) b o zs.length c zs w (fun W x _=>(tJ x W).mono fun e w' h=>⟨h.1,0,by rw[h.2];rfl⟩) (vV _) (by omega) (fun j g=>by rw[getElem!_pos zs j g];exact p j _ (vu g))).mono ?_
  rintro e w' ⟨rfl,q,rfl⟩;rw[wg];exact⟨rfl,(wL w).drewN q⟩
namespace Rn
theorem zip_any_at {α β:Type}{l:List α}{m:List β}{p:α × β->Bool}{j:Nat}{a:α}{b:β}(h1:l[j]?=some a)(h2:m[j]?=some b)(hp:p (a,b)=true):(l.zip m).any p=true:=by rw[wC];exact⟨(a,b),vz (List.getElem?_zip_eq_some.2 ⟨h1,h2⟩),hp⟩
theorem zip_any_none {α β:Type}{l:List α}{m:List β}{p:α × β->Bool}(h:∀(j:Nat)(a:α)(b:β),l[j]?=some a->m[j]?=some b->p (a,b)=false):(l.zip m).any p=false:=by rw[List.any_eq_false];rintro⟨a,b⟩ r;obtain⟨j,q⟩:=List.getElem?_of_mem r;obtain⟨d,g⟩:=List.getElem?_zip_eq_some.1 q;rw[h j a b d g];exact Bool.false_ne_true
end Rn
theorem eY {w:World}{f:Fn}{vf:Value}(hfn:FnAt w.heap.size w vf f)(hnice:jF f){i:Rn.Inp}{va vm:Value}(ha:U32At w.heap.size w va i.args)(hm:TabAt w.heap.size w vm i.mem) :
  Calls prog 13 #[vf,.agg #[va,vm]] w (RG (.int .i64 (Rn.validInput f i)) w):=by
 obtain⟨vp,vs,vb,rfl,hp,hs,Q⟩:=hfn;obtain⟨W,hW⟩:=xJ ((w.alloc (.cells #[vp,.int .i64 f.ret,vs,vb] 25)).alloc (.cells #[va,vm] 29));have D:Gr w W:=by rw[<-hW];exact((wL w).alloc _).alloc _
 have al:(w.alloc (.cells #[vp,.int .i64 f.ret,vs,vb] 25)).heap.size=w.heap.size+1:=by simp
 have T:W.heap[w.heap.size]?=some (.cells #[vp,.int .i64 f.ret,vs,vb] 25 (0,0)):=by rw[<-hW];exact(((wL (w.alloc (.cells #[vp,.int .i64 f.ret,vs,vb] 25))).alloc _).heap _ (by simp)).trans (heap_alloc_new w _)
 have X:W.heap[w.heap.size+1]?=some (.cells #[va,vm] 29 (0,0)):=by rw[<-hW,<-al];exact heap_alloc_new _ _
 have CV:=dJ (kR (.agg #[vp,.int .i64 f.ret,vs,vb]) f W ⟨vp,vs,vb,rfl,(hp.below D).mono D.size,(hs.below D).mono D.size,(Q.below D).mono D.size⟩ hnice);have HF:Hid (∀wr,Gr W wr->wr.heap[w.heap.size]?=some (.cells #[vp,.int .i64 f.ret,vs,vb] 25 (0,0))/\wr.heap[w.heap.size+1]?=some (.cells #[va,vm] 29 (0,0))):=fun wr g=>⟨(g.heap _ (cY T)).trans T,(g.heap _ (cY X)).trans X⟩;obtain⟨Ap,cp,rfl,p1,p2,p3⟩:=hp;obtain⟨As,cs,rfl,s1,s2,s3⟩:=hs;obtain⟨Ab,cb,rfl,-,-,-⟩:=id Q;obtain⟨Aa,ca,rfl,a1,a2,a3⟩:=ha;obtain⟨Am,cm,rfl,m1,m2,m3⟩:=hm
 have ax:Hid (∀wr,Gr W wr->∀j z,f.params[j]?=some z->∃b o,Ap=some ⟨b,o,none⟩/\wr.cell? ⟨b,o+j,none⟩=some (.int .i64 z)):=fun wr g j z p=>by obtain⟨b,o,e,Q,O⟩:=p3 (by have:=(yC.1 p).1;omega);exact⟨b,o,e,((D.trans g).cell _ _ (by omega)).trans (O j z p)⟩
 have ay:Hid (∀wr,Gr W wr->∀j z,f.slots[j]?=some z->∃b o,As=some ⟨b,o,none⟩/\wr.cell? ⟨b,o+j,none⟩=some (.int .i64 z)):=fun wr g j z p=>by obtain⟨b,o,e,Q,O⟩:=s3 (by have:=(yC.1 p).1;omega);exact⟨b,o,e,((D.trans g).cell _ _ (by omega)).trans (O j z p)⟩
 have ap:Hid (∀wr,Gr W wr->∀j z,i.args[j]?=some z->∃b o,Aa=some ⟨b,o,none⟩/\wr.cell? ⟨b,o+j,none⟩=some (.int .u32 z)):=fun wr g j z p=>by obtain⟨b,o,e,Q,O⟩:=a3 (by have:=(yC.1 p).1;omega);exact⟨b,o,e,((D.trans g).cell _ _ (by omega)).trans (O j z p)⟩
 have ar:Hid (∀wr,Gr W wr->∀j l,i.mem[j]?=some l->∃b o Al cl,Am=some ⟨b,o,none⟩/\wr.cell? ⟨b,o+j,none⟩=some (.slice Al l.length cl)/\l.length<=17592186044416/\Calls prog 40 #[.slice Al l.length cl,.func (.func 41) #[] #[]] wr (RG (.bool (l.any fun b=>decide (b < -1) || decide (255<b))) wr)):=fun wr g j l hl=>by obtain⟨b,o,e,Q,O⟩:=m3 (by have:=(yC.1 hl).1;omega);obtain⟨u,hu,am⟩:=O j l hl;have an:=am;obtain⟨Al,cl,rfl,-,h6,-⟩:=an;exact⟨b,o,Al,cl,e,((D.trans g).cell _ _ (by omega)).trans hu,h6,ub (am.below (D.trans g))⟩
 have B:=dJ D;obtain⟨R,hR⟩:=xJ (Rn.validInput f i);rw[hR];unfold Rn.validInput at hR;have HR:=dJ hR;obtain⟨V,hV⟩:=xJ (Ref.validate f);rw[hV]at CV HR;have HV:=dJ hV
 have S:∀wr,Gr W wr->C6 wr w.heap.size (.slice Ap f.params.length cp) (.int .i64 f.ret) (.slice As f.slots.length cs) (.slice Ab f.blocks.length cb) (.slice Aa i.args.length ca) (.slice Am i.mem.length cm):=fun wr g=>by obtain⟨q1,q2⟩:=HF.out wr g;exact⟨vX _ _ 0 _ _ _ q1,vX _ _ 1 _ _ _ q1,vX _ _ 2 _ _ _ q1,vX _ _ 3 _ _ _ q1,vX _ _ 0 _ _ _ q2,vX _ _ 1 _ _ _ q2⟩
 have HC:=dJ S;obtain⟨k0,k1,k2,k3,k4,k5⟩:=S W (wL _);clear D T X p3 s3 a3 m3 hR hV S al Q;by_cases ao:V=0
 ·subst ao
  have HW:Hid (∀j z,f.params[j]?=some z->Wd.Wid z):=fun j z p=>by have hv:Ref.Val f:=(Ref.val_iff f).1 HV.out;exact Rn.wid_of (vT.1 hv.head.1 z (vz p))
  by_cases d:i.args.length=f.params.length
  ·by_cases A:i.mem.length=f.slots.length
   ·have ae:Hid ((if (f.params.zip i.args).any (fun q=>decide (Wd.sz q.1<=q.2))=true then 1 else if (f.slots.zip i.mem).any (fun q=>decide ((q.2.length:Int)≠q.1) || q.2.any (fun b=>decide (b < -1) || decide (255<b)))=true then 1 else 0)=R):=by
     have:=HR.out;rw[yD (by decide),yD (by omega)]at this;exact this
    obtain⟨n,Y⟩:=xJ f.params.length;obtain⟨m,hm⟩:=xJ f.slots.length;rw[Y]at d p1 p2 k0;rw[hm]at A s1 s2 k2;rw[d]at a1 a2 k4;rw[A]at m1 m2 k5
    have ab:Hid (∀wr,Gr W wr->wr.cell? ⟨w.heap.size,0,none⟩=some (.slice Ap n cp)/\wr.cell? ⟨w.heap.size,2,none⟩=some (.slice As m cs)/\wr.cell? ⟨w.heap.size+1,0,none⟩=some (.slice Aa n ca)/\wr.cell? ⟨w.heap.size+1,1,none⟩=some (.slice Am m cm)):=fun wr g=>by obtain⟨q0,q1,q2,q3,q4,q5⟩:=HC.out wr g;rw[Y]at q0;rw[hm]at q2;rw[d]at q4;rw[A]at q5;exact⟨q0,q2,q4,q5⟩
    have ac:=dJ Y;have ad:=dJ hm;have au:=dJ d;have av:=dJ A;rw[Y,hm,d,A]at hW;rw[Y,hm]at CV;rw[Y,hm,d,A];clear d A Y hm
    go_enter func13, ntmps13
    go_wp2_with (go_at_call 38;refine CV.out.mono ?_;rintro e L ⟨rfl,K⟩;obtain⟨j0,j2,j4,j5⟩:=ab.out L K;have t:=dJ K)
    have aw:Hid (∀k z x,f.params[k]?=some z->i.args[k]?=some x->Wd.sz z<=x->R=1):=fun k z x r y h3=>by rw[<-ae.out,wa (Rn.zip_any_at r y (by simpa using h3))]
    go_loop [36] (fun Z=>∃k:Nat,k<=n/\Z=.int .i64 (k:Int)/\Hid (∀j z x,j<k->f.params[j]?=some z->i.args[j]?=some x->x<Wd.sz z)) (fun Z=>n-(intOf Z).toNat)
    case atStart=>exact⟨0,vU _,rfl,(fun j z x h=>absurd h (Nat.not_lt_zero _))⟩
    case round =>
     obtain⟨k,hk,rfl,F⟩:=hrel;by_cases ak:k<n
     ·obtain⟨z,p⟩:∃z,f.params[k]?=some z:=⟨_,vu (by have:=ac.out;omega)⟩;obtain⟨x,hx⟩:∃x,i.args[k]?=some x:=⟨_,vu (by have:=au.out;omega)⟩;obtain⟨bp,op,rfl,cz⟩:=ax.out L t.out k z p;obtain⟨ba,oa,rfl,cx⟩:=ap.out L t.out k x hx;have CM:=dJ (kn z L (HW.out k z p));have M:=dJ (aw.out k z x p hx)
      have H:Hid (x<Wd.sz z->∀j z x,j<k+1->f.params[j]?=some z->i.args[j]?=some x->x<Wd.sz z):=fun h j z' x' hj r y=>by
       rcases wh j k with q|q
       ·exact F.out j z' x' q r y
       ·obtain rfl:j=k:=by omega
        rw[p]at r;rw[hx]at y;injection r with r;injection y with y;subst r;subst y;exact h
      obtain⟨s,hs⟩:=xJ (Wd.sz z);rw[hs]at CM M H;clear p hx hs;by_cases ag:s<=x
      ·have C:Hid (R=1):=M.out ag;have az:s-1<x:=by omega
       go_wp2_with (go_at_call 39;refine CM.out.mono ?_;rintro e w2 ⟨rfl,rfl⟩);go_ret;exact⟨de C.out.symm,B.out.trans t.out⟩
      ·have az:¬s-1<x:=by omega
       have I:=dJ (H.out (by omega));go_wp2_with (go_at_call 39;refine CM.out.mono ?_;rintro e w2 ⟨rfl,rfl⟩);go_round;case rel=>exact⟨k+1,by omega,by go_num,I⟩
       case measure=>simp[intOf];omega
     ·obtain rfl:n=k:=by omega
      have af:Hid ((if (f.slots.zip i.mem).any (fun q=>decide ((q.2.length:Int)≠q.1) || q.2.any (fun b=>decide (b < -1) || decide (255<b)))=true then 1 else 0)=R):=by
       show _=_;have h:=ae.out
       rw[Rn.zip_any_none (fun j a b r y=>by
         have hj:=(yC.1 r).1
         have:=F.out j a b (by have:=ac.out;omega) r y
         simpa using this)]at h
       simpa using h
      clear F ak hk;go_wp2
      go_loopw [57] (fun aa wr=>∃k:Nat,k<=m/\aa=.int .i64 (k:Int)/\Hid (Gr W wr)/\Hid (∀j z l,j<k->f.slots[j]?=some z->i.mem[j]?=some l->(decide ((l.length:Int)≠z) || l.any (fun b=>decide (b < -1) || decide (255<b)))=false)) (fun aa _=>m-(intOf aa).toNat)
      case atStart=>exact⟨0,vU _,rfl,t,(fun j z x h=>absurd h (Nat.not_lt_zero _))⟩
      case round =>
       obtain⟨k,hk,rfl,U,F⟩:=hrel;obtain⟨q0,q2,q4,q5⟩:=ab.out wr U.out;by_cases ak:k<m
       ·obtain⟨z,p⟩:∃z,f.slots[k]?=some z:=⟨_,vu (by have:=ad.out;omega)⟩;obtain⟨l,hl⟩:∃l,i.mem[k]?=some l:=⟨_,vu (by have:=av.out;omega)⟩;obtain⟨bs,os,rfl,cz⟩:=ay.out wr U.out k z p;obtain⟨bm,om,Al,cl,rfl,cx,aC,J⟩:=ar.out wr U.out k l hl;have CC:=dJ J
        have G:Hid ((decide ((l.length:Int)≠z) || l.any (fun b=>decide (b < -1) || decide (255<b)))=true->R=1):=fun h=>by rw[<-af.out,wa (Rn.zip_any_at p hl h)]
        have H:Hid ((decide ((l.length:Int)≠z) || l.any (fun b=>decide (b < -1) || decide (255<b)))=false->∀j z l,j<k+1->f.slots[j]?=some z->i.mem[j]?=some l->(decide ((l.length:Int)≠z) || l.any (fun b=>decide (b < -1) || decide (255<b)))=false):=fun h j z' l' hj r y=>by
         rcases wh j k with q|q
         ·exact F.out j z' l' q r y
         ·obtain rfl:j=k:=by omega
          rw[p]at r;rw[hl]at y;injection r with r;injection y with y;subst r;subst y;exact h
        obtain⟨bd,ah⟩:∃bd,l.any (fun b=>decide (b < -1) || decide (255<b))=bd:=⟨_,rfl⟩;rw[ah]at CC G H;clear p hl J ah;by_cases E:(l.length:Int)=z
        ·have ai:((l.length:Int) != z)=false:=by simp[E]
         have aq:=dJ E;clear E
         cases bd with
         | true =>
          have C:Hid (R=1):=G.out (by simp);go_wp2_with (go_at_call 40;refine CC.out.mono ?_;rintro e w2 ⟨rfl,g2⟩);go_ret;exact⟨de C.out.symm,B.out.trans (U.out.trans g2)⟩
         | false =>
          have I:=dJ (H.out (by simp[aq.out]));go_wp2_with (go_at_call 40;refine CC.out.mono ?_;rintro e w2 ⟨rfl,g2⟩;have G2:=dJ (U.out.trans g2));refine⟨⟨k+1,by omega,by go_num,G2,I⟩,by simp[intOf];omega⟩
        ·have ai:((l.length:Int) != z)=true:=by simpa using E
         have C:Hid (R=1):=G.out (by simp[E]);clear E;go_wp2;go_ret;exact⟨de C.out.symm,B.out.trans U.out⟩
       ·obtain rfl:m=k:=by omega
        have C:Hid (R=0):=by
         show _=_
         rw[<-af.out,Rn.zip_any_none (fun j a b r y=>by
           have hj:=(yC.1 r).1
           exact F.out j a b (by have:=ad.out;omega) r y)]
         rfl
        go_wp2;go_ret;exact⟨de C.out.symm,B.out.trans U.out⟩
   ·have C:Hid (R=1):=by show _=_;rw[<-HR.out,yD (by decide),wa (.inr A)]
    have aj:¬((i.mem.length:Int)=(f.slots.length:Int)):=by omega
    have N:(i.args.length:Int)=(f.params.length:Int):=by omega
    have aA:((i.args.length:Int) != (f.params.length:Int))=false:=by simp[d]
    have aB:((i.mem.length:Int) != (f.slots.length:Int))=true:=by simp;omega
    clear d N aj
    go_enter func13, ntmps13
    go_wp2_with (go_at_call 38;refine CV.out.mono ?_;rintro e L ⟨rfl,K⟩;obtain⟨j0,j1,j2,j3,j4,j5⟩:=HC.out L K;have t:=dJ K);go_ret;exact⟨de C.out.symm,B.out.trans t.out⟩
  ·have C:Hid (R=1):=by show _=_;rw[<-HR.out,yD (by decide),wa (.inl d)]
   have N:¬((i.args.length:Int)=(f.params.length:Int)):=by omega
   go_enter func13, ntmps13
   go_wp2_with (go_at_call 38;refine CV.out.mono ?_;rintro e L ⟨rfl,K⟩;obtain⟨j0,j1,j2,j3,j4,j5⟩:=HC.out L K;have t:=dJ K);go_ret;exact⟨de C.out.symm,B.out.trans t.out⟩
 ·have C:Hid (R=V):=by show _=_;rw[<-HR.out,wa ao]
  go_enter func13, ntmps13
  go_wp2_with (go_at_call 38;refine CV.out.mono ?_;rintro e L ⟨rfl,K⟩);go_ret;exact⟨de C.out.symm,B.out.trans K⟩
theorem iA {S:Nat->Prop}{w a b:World}(g:Gr w a)(h:FrS S a b)(hS:∀k,S k->w.heap.size<=k):Gr w b :=
 ⟨h.os.trans g.os,h.tape.trans g.tape,h.output.trans g.output,Nat.le_trans g.size h.size,fun k d=>(h.block k (by have:=g.size;omega) (fun q=>by have:=hS k q;omega)).trans (g.heap k d)⟩
theorem U32At.below {B:Nat}{w w':World}{v:Value}{zs:List Int}(h:U32At B w v zs)(hb:Below B w w'):U32At B w' v zs :=
 SlAt.imp h fun b off d g j z l=>(hb.cell (p:=⟨b,off+j,none⟩) d).trans (g j z l)
theorem yh {f:Fn}{i:Rn.Inp}{p:List Int}(h:Rn.Good f i p){k:Nat}(hk:Rn.nextK (Rn.padded p (Rn.wids f i p).length) (Rn.wids f i p) (Rn.wids f i p).length=some k) :
  Rn.Good f i (Rn.bump (Rn.padded p (Rn.wids f i p).length) k)/\(Rn.wids f i (Rn.bump (Rn.padded p (Rn.wids f i p).length) k)).take (Rn.bump (Rn.padded p (Rn.wids f i p).length) k).length=(Rn.wids f i p).take (k+1):=by
 obtain⟨d,t,g⟩:=Rn.good_next h hk;have j:=(Rn.nextK_some _ _ _ _ hk).1;refine⟨d,?_⟩;rw[Rn.bump_len (by rw[Rn.padded_len h.1];exact j),<-g,List.take_append_of_le_length (by rw[List.length_take];omega),List.take_take,Nat.min_self]
def oU (f:Fn)(i:Rn.Inp)(B Bg:Nat)(R:Option (List Rn.Out))(n:Nat)(v:Value)(w:World):Prop :=
 ∃(D:Nat->Prop)(vp vw:Value)(vms:List Value)(p:List Int)(outs:List Rn.Out),Rd D B Bg w v vp vw vms p ((Rn.wids f i p).take p.length) 0 outs/\Rn.Good f i p/\Rn.Asc outs/\outs.length+1<=n/\Rn.explore f i (257-n) p outs=R
theorem lk {f:Fn}{i:Rn.Inp}{B Bg n:Nat}{R:Option (List Rn.Out)}{v vp vw:Value}{w:World}{D:Nat->Prop}{vms:List Value}{p:List Int}{outs:List Rn.Out}
  (hRA:Ref.RcAll) (hf:VFn f) (hin:Rn.validInput f i=0) (ha:∀a∈i.args,0<=a) (hg:Rn.Good f i p) (ho:Rn.Asc outs) (hn:outs.length+1<=n) (hn2:n<257) (he:Rn.explore f i (257-n) p outs=R)
  (h:Rd D B Bg w v vp vw vms (Rn.padded p (Rn.wids f i p).length) (Rn.wids f i p) (Rn.wids f i p).length (Rn.insert (Rn.run f (Rn.given p) i).1 outs)) {N:Option Nat} (hN:Rn.nextK (Rn.padded p (Rn.wids f i p).length) (Rn.wids f i p) (Rn.wids f i p).length=N) :
  Calls prog 52 #[.pointer (some ⟨Bg,0,none⟩)] w fun e w'=>e=.returned (.bool N.isSome)/\FrS (fun k=>B<=k) w w' /\
   (N=none->∃outs',R=some outs'/\outs'.length<=256/\Rn.Asc outs'/\OutsAt D B w' v outs' vms)/\(N.isSome=true->oU f i B Bg R (n+1) v w'):=by
 obtain⟨I,u,J,K⟩:=Rn.run_ok hRA hf.val hf.im hin ha p;have j:(Rn.padded p (Rn.wids f i p).length).length=(Rn.wids f i p).length:=Rn.padded_len hg.1;have C:=Rn.insert_len (Rn.run f (Rn.given p) i).1 outs;have d:=Rn.insert_asc (Rn.run f (Rn.given p) i).1 outs ho;obtain⟨m,E⟩:∃m,257-n=m+1:=⟨256-n,by omega⟩;rw[E]at he;obtain⟨y,z⟩:=Rn.explore_round he;refine(nI h.ex j.symm (by omega) u (Rn.good_words hg u) (R:=N) (by rw[j];exact hN)).mono ?_;rintro e w' ⟨rfl,l,H,A⟩;refine⟨rfl,l.mono fun k g=>(kH h.ex g).1,fun hn0=>⟨_,y (by rw[hN];exact hn0),by omega,d,h.at_.frs l (fun k g q=>(h.dlt k g).2.2.1 q) (fun k g q=>h.vo k g q)⟩,fun hs=>?_⟩;obtain⟨k,rfl⟩:∃k,N=some k:=Option.isSome_iff_exists.1 hs;obtain⟨r,t,F,G⟩:=A k rfl;obtain⟨s1,s2⟩:=yh hg hN;refine⟨D,r,t,vms,_,_,?_,s1,d,by omega,by rw[show 257-(n+1)=m by omega];exact z k hN⟩;rw[s2];exact h.next F l G
def AllP (f:Fn)(i:Rn.Inp)(B:Nat)(e:Ending)(w':World):Prop :=
 (Rn.validInput f i≠0/\e=.returned (.tuple #[.slice none 0 0,.int .i64 (Rn.validInput f i)])) \/
 (Rn.validInput f i=0/\Rn.all f i=none/\e=.returned (.tuple #[.slice none 0 0,.int .i64 3])) \/
 (Rn.validInput f i=0/\∃outs,Rn.all f i=some outs/\outs.length<=256/\Rn.Asc outs/\∃(v:Value)(D:Nat->Prop)(vms:List Value),e=.returned (.tuple #[v,.int .i64 0])/\OutsAt D B w' v outs vms)
theorem sN {w:World}{f:Fn}{vf:Value}(hfn:FnAt w.heap.size w vf f)(hnice:jF f)(him:Rn.Im f){i:Rn.Inp}{va vm:Value}(ha:U32At w.heap.size w va i.args)(hm:TabAt w.heap.size w vm i.mem)(hnn:∀a∈i.args,0<=a) :
  Calls prog 20 #[vf,.agg #[va,vm]] w fun e w'=>AllP f i (w.heap.size+2) e w'/\Gr w w':=by
 obtain⟨vp,vs,vb,rfl,hp,hs,hb⟩:=hfn;have aQ:Hid (FnAt w.heap.size w (.agg #[vp,.int .i64 f.ret,vs,vb]) f):=⟨vp,vs,vb,rfl,hp,hs,hb⟩;have HA:=dJ ha;have HM:=dJ hm;have ad:=dJ hnn;obtain⟨W,hW⟩:=xJ ((w.alloc (.cells #[vp,.int .i64 f.ret,vs,vb] 25)).alloc (.cells #[va,vm] 29));have A:Gr w W:=by rw[<-hW];exact((wL w).alloc _).alloc _
 have aK:(w.alloc (.cells #[vp,.int .i64 f.ret,vs,vb] 25)).heap.size=w.heap.size+1:=by simp
 have aD:W.heap.size=w.heap.size+2:=by rw[<-hW];simp
 have aj:W.heap[w.heap.size]?=some (.cells #[vp,.int .i64 f.ret,vs,vb] 25 (0,0)):=by rw[<-hW];exact(((wL (w.alloc (.cells #[vp,.int .i64 f.ret,vs,vb] 25))).alloc _).heap _ (by simp)).trans (heap_alloc_new w _)
 have ak:W.heap[w.heap.size+1]?=some (.cells #[va,vm] 29 (0,0)):=by rw[<-hW,<-aK];exact heap_alloc_new _ _
 have CV:=dJ (eY (w:=W) (f:=f) (vf:=.agg #[vp,.int .i64 f.ret,vs,vb]) (i:=i) (va:=va) (vm:=vm) ⟨vp,vs,vb,rfl,(hp.below A).mono A.size,(hs.below A).mono A.size,(hb.below A).mono A.size⟩ hnice (SlAt.mono (U32At.below ha A) A.size) ((hm.below A).mono A.size));have HB:Hid (∀wr,Gr W wr->wr.heap[w.heap.size]?=some (.cells #[vp,.int .i64 f.ret,vs,vb] 25 (0,0))/\wr.heap[w.heap.size+1]?=some (.cells #[va,vm] 29 (0,0))):=fun wr g=>⟨(g.heap _ (cY aj)).trans aj,(g.heap _ (cY ak)).trans ak⟩
 have ah:∀wr,Gr W wr->C6 wr w.heap.size vp (.int .i64 f.ret) vs vb va vm:=fun wr g=>by obtain⟨q1,q2⟩:=HB.out wr g;exact⟨vX _ _ 0 _ _ _ q1,vX _ _ 1 _ _ _ q1,vX _ _ 2 _ _ _ q1,vX _ _ 3 _ _ _ q1,vX _ _ 0 _ _ _ q2,vX _ _ 1 _ _ _ q2⟩
 have HC:=dJ ah;obtain⟨k0,k1,k2,k3,k4,k5⟩:=ah W (wL _);have E:=dJ A;have au:=dJ aD;obtain⟨Ap,cp,rfl,-⟩:=id hp;obtain⟨As,cs,rfl,-⟩:=id hs;obtain⟨Ab,cb,rfl,-⟩:=id hb;obtain⟨Aa,ca,rfl,-⟩:=id ha;obtain⟨Am,cm,rfl,-⟩:=id hm;obtain⟨V,hV⟩:=xJ (Rn.validInput f i);rw[hV]at CV;have K:=dJ hV;clear A aj ak hV ah aK hp hs hb aD ha hm hnn;by_cases aL:V=0
 ·subst aL;have hf:VFn f:=⟨(Rn.valid_input K.out).1,him⟩
  go_enter func20, ntmps20
  go_wp2_with (go_at_call 13;refine CV.out.mono ?_;rintro e B ⟨rfl,g1⟩;obtain⟨j0,j1,j2,j3,j4,j5⟩:=HC.out B g1;have a2:=dJ g1);obtain⟨N,ag⟩:=xJ (B.alloc (.cells #[.slice none 0 0,.slice none 0 0,.int .i64 0] 86));obtain⟨R,hR⟩:=xJ (Rn.all f i);have g3:Gr B N:=by rw[<-ag];exact(wL B).alloc _
  have aF:N.heap[B.heap.size]?=some (.cells #[.slice none 0 0,.slice none 0 0,.int .i64 0] 86 (0,0)):=by rw[<-ag];exact heap_alloc_new _ _
  have ae:w.heap.size+2<=B.heap.size:=by have:=g1.size;have:=au.out;omega
  have aS:Hid (oU f i (w.heap.size+2) B.heap.size R 1 (.slice none 0 0) N) :=
   ⟨fun _=>False,.slice none 0 0,.slice none 0 0,[],[],[],⟨⟨aF,Own1.nil _ _ _,Own1.nil _ _ _,ae⟩,⟨rfl,⟨rfl,.inl ⟨rfl,rfl⟩⟩,fun j o vm h=>by simp at h⟩,fun k z=>z.elim,fun k z=>by cases z⟩,Rn.good_nil f i,by unfold Rn.Asc;exact List.Pairwise.nil,vV _,hR⟩
  have HR:=dJ hR;have t:=dJ (g1.trans g3);have a1:=dJ ae
  have aP:Hid (∀wr,FrS (fun k=>w.heap.size+2<=k) N wr->C6 wr w.heap.size (.slice Ap f.params.length cp) (.int .i64 f.ret) (.slice As f.slots.length cs) (.slice Ab f.blocks.length cb) (.slice Aa i.args.length ca) (.slice Am i.mem.length cm)):=fun wr H=>by obtain⟨q1,q2⟩:=HB.out N t.out;have r1:=(H.block _ (cY q1) (by omega)).trans q1;have r2:=(H.block _ (cY q2) (by omega)).trans q2;exact⟨vX _ _ 0 _ _ _ r1,vX _ _ 1 _ _ _ r1,vX _ _ 2 _ _ _ r1,vX _ _ 3 _ _ _ r1,vX _ _ 0 _ _ _ r2,vX _ _ 1 _ _ _ r2⟩
  clear aF ae g3 hR g1 j0 j1 j2 j3 j4 j5 k0 k1 k2 k3 k4 k5;go_wp2
  go_loopw [8,9] (fun s8 s9 wr=>∃n:Nat,1<=n/\n<=257/\s9=.int .i64 (n:Int)/\Hid (oU f i (w.heap.size+2) B.heap.size R n s8 wr)/\Hid (FrS (fun k=>w.heap.size+2<=k) N wr)) (fun _ s9 _=>257-(intOf s9).toNat)
  case atStart=>rw[ag];exact⟨1,vV _,by decide,rfl,aS,FrS.refl _ _⟩
  case round =>
   obtain⟨n,a9,ba,rfl,hI,H⟩:=hrel;by_cases aH:n=257
   ·subst aH
    have HE:Hid (R=none):=by obtain⟨D,aZ,a0,aO,p,outs,-,-,-,-,h⟩:=hI.out;exact h.symm
    have aR:Hid (Gr w wr):=iA (E.out.trans t.out) H.out (fun k z=>by omega);clear hI H;go_wp2;go_ret2;exact⟨.inr (.inl ⟨K.out,HR.out.trans HE.out,rfl⟩),aR.out⟩
   ·have Y:n<257:=by omega
    have bb:(n:Int)<=256:=by omega
    obtain⟨D,aZ,a0,aO,p,outs,ax,ay,az,aA,aB⟩:=hI.out;have aT:=dJ ax;have ac:=dJ ay;have G:=dJ az;have M:=dJ aA;have aq:=dJ aB;clear ax ay az aA aB aH;have aW:FrS (fun k=>w.heap.size+2<=k) N wr.drew:=H.out.drew;have ap:Hid (Below w.heap.size w wr):=iA (E.out.trans t.out) H.out (fun k z=>by omega);obtain⟨X,hX⟩:=xJ ((Rn.run f (Rn.given p) i).1);obtain⟨Nx,aC⟩:=xJ (Rn.nextK (Rn.padded p (Rn.wids f i p).length) (Rn.wids f i p) (Rn.wids f i p).length);have HX:=dJ hX;have ar:=dJ aC
    have CS:Hid (∀u:World,Gr wr u->Calls prog 47 #[.agg #[.slice Ap f.params.length cp,.int .i64 f.ret,.slice As f.slots.length cs,.slice Ab f.blocks.length cb],.agg #[.slice Aa i.args.length ca,.slice Am i.mem.length cm],.iface 84 (.pointer (some ⟨B.heap.size,0,none⟩))] u fun e w4=>∃c:Cfg,e=.returned (.pointer (some ⟨c.Bs,0,none⟩))/\∀u2,Gr w4 u2 ->
        Calls prog 48 #[.pointer (some ⟨c.Bs,0,none⟩)] u2 fun e w'=>∃vx,e=.returned (gS X vx)/\∃(D':Nat->Prop)(S T:Value),Rd D' (w.heap.size+2) B.heap.size w' u8 S T aO (Rn.padded p (Rn.wids f i p).length) (Rn.wids f i p) (Rn.wids f i p).length outs/\Keeps D' w' vx X.mem/\FrS (fun k=>w.heap.size+2<=k) wr w'):=fun u gu=>by
     have am:Below w.heap.size w u:=ap.out.trans (Below.mono gu (by have:=ap.out.size;omega));refine(jA (B0:=w.heap.size+2) (f:=f) (i:=i) ((aQ.out.below am).mono (by omega)) (by have:=gu.size;have:=H.out.size;have:=t.out.size;have:=au.out;omega) hf (SlAt.mono (U32At.below HA.out am) (by omega)) ((HM.out.below am).mono (by omega)) K.out _ _).mono ?_;rintro e w4 ⟨c,cn,cf,aV,rfl,aX,g4,hK,a8⟩;refine⟨c,rfl,fun u2 g2=>?_⟩;rw[<-hX];refine(rV aT.out ac.out mr hf K.out ad.out ((gu.trans g4).trans g2) cn cf aV (aX.gr g2) (fun k z=>by have:=hK k z;have:=gu.size;omega) (by have:=g2.size;omega)).mono ?_;rintro e w' ⟨vx,rfl,D',S,T,r1,r2,r3⟩;exact⟨vx,rfl,D',S,T,r1,r2,(FrS.of_gr ((gu.trans g4).trans g2)).trans r3⟩
    obtain⟨Bl,af⟩:=xJ (Rn.below X outs);obtain⟨F,aw⟩:∃F,decide (outs[Bl]?=some X)=F:=⟨_,rfl⟩;have L:=dJ af;have ab:=dJ aw;have ao:Hid (Bl<=outs.length):=by show _<=_;rw[<-af];exact Rn.below_le X outs
    obtain⟨j0,j1,j2,j3,j4,j5⟩:=aP.out wr H.out;clear aW hX aC af aw;unfold gS at CS;cases F;all_goals cases Nx
    all_goals
     go_wp2_with (first
       | (go_at_call 47;refine(CS.out _ (by first|exact(wL wr).drew|exact wL wr)).mono ?_;rintro e w4 ⟨c,rfl,aE⟩;have CO:=dJ aE;clear aE)
       | (go_at_call 48;refine(CO.out _ (wL w4)).mono ?_;rintro e Z ⟨vx,rfl,D',S,T,aJ,al,aG⟩;obtain⟨Ax,cx,rfl⟩:=al.2.1;have RD:=dJ aJ;have KP:=dJ al;have FR:=dJ aG;clear aJ al aG)
       | (go_at_call 49
          obtain⟨W6,O⟩:=xJ (Z.alloc (.cells #[.int .i64 X.kind,.bool X.ret.p,.int .i64 X.ret.s,.int .u32 X.ret.n,.slice Ax X.mem.length cx] 39))
          have G6:Hid (Gr Z W6):=by show Gr _ _;rw[<-O];exact(wL Z).alloc _
          have BX:Hid (∀u,Gr W6 u->_):=fun u gu=>ed (w:=Z) (o:=X) (vm:=.slice Ax X.mem.length cx) (w':=u) (by show Gr (Z.alloc _) u;rw[O];exact gu)
          rw[O]
          have BS:=dJ (lI ((RD.out.gr G6.out).at_) (by have:=M.out;omega) G.out (KP.out.gr G6.out))
          rw[L.out,ab.out]at BS
          unfold gS at BS
          (with_reducible refine BS.out.mono ?_)
          rintro e J ⟨rfl,U⟩
          have G7:Hid (Gr Z J):=G6.out.trans U
          obtain⟨b0,b1,b2,b3,b4⟩:=BX.out J U
          have a3:=fun o=>(BX.out (J.alloc o) (U.alloc o)).1
          have a4:=fun o=>(BX.out (J.alloc o) (U.alloc o)).2.1
          have a5:=fun o=>(BX.out (J.alloc o) (U.alloc o)).2.2.1
          have a6:=fun o=>(BX.out (J.alloc o) (U.alloc o)).2.2.2.1
          have a7:=fun o=>(BX.out (J.alloc o) (U.alloc o)).2.2.2.2
          clear U BS O)
       | (go_at_call 51
          obtain⟨W8,Q⟩:=xJ (J.alloc (.cells #[.int .i64 X.kind,.bool X.ret.p,.int .i64 X.ret.s,.int .u32 X.ret.n,.slice Ax X.mem.length cx] 39))
          have G8:Hid (Gr Z W8):=by show Gr _ _;rw[<-Q];exact G7.out.alloc _
          have aN:W8.heap[J.heap.size]?=some (.cells (sH X (.slice Ax X.mem.length cx)).toArray 39 (0,0)):=by rw[<-Q];exact heap_alloc_new _ _
          have aY:Z.heap.size<=J.heap.size:=G7.out.size
          rw[Q]
          have y:=RD.out.gr G8.out
          have av:w.heap.size+2<=W8.heap.size:=by have:=kH y.ex (k:=B.heap.size) (Or.inl rfl);omega
          have CI:=dJ (rA y.at_ av (by have:=M.out;omega) ao.out (KP.out.gr G8.out) aN (fun q=>by have:=(dx RD.out.at_.own _ q).2;omega) (fun k z=>(y.dlt k z).2.2.2))
          (with_reducible refine CI.out.mono ?_)
          rintro e w9 ⟨A9,c9,rfl,aI,ai,aM⟩
          have m:=y.insert aI ai aM
          rw[<-L.out,<-Rn.insert_new X outs G.out (by have:=ab.out;rw[<-L.out]at this;simpa using this),<-HX.out]at m
          have aU:=dJ m
          have aa:Hid (FrS (fun k=>w.heap.size+2<=k) wr w9):=(FR.out.trans (FrS.of_gr G8.out)).trans (ai.mono fun k z=>(dx y.at_.own k z).1)
          clear m y aI ai aM aN aY Q CI av)
       | (go_at_call 52
          have CN:=dJ (lk mr hf K.out ad.out ac.out G.out M.out Y aq.out aU.out ar.out)
          (with_reducible refine CN.out.mono ?_)
          rintro e an ⟨he,I,d,l⟩
          simp only[Option.isSome_none,Option.isSome_some]at he
          subst he
          have EN:=dJ d
          have ES:=dJ l
          have C:Hid (FrS (fun k=>w.heap.size+2<=k) N an):=H.out.trans (aa.out.trans I)
          clear I d l)
       | (go_at_call 52
          have m:=RD.out.gr G7.out
          rw[<-Rn.insert_found X outs G.out (by have:=ab.out;rw[<-L.out]at this;simpa using this),<-HX.out]at m
          have aa:Hid (FrS (fun k=>w.heap.size+2<=k) wr J):=FR.out.trans (FrS.of_gr G7.out)
          have CN:=dJ (lk mr hf K.out ad.out ac.out G.out M.out Y aq.out m ar.out)
          (with_reducible refine CN.out.mono ?_)
          rintro e an ⟨he,I,d,l⟩
          simp only[Option.isSome_none,Option.isSome_some]at he
          subst he
          have EN:=dJ d
          have ES:=dJ l
          have C:Hid (FrS (fun k=>w.heap.size+2<=k) N an):=H.out.trans (aa.out.trans I)
          clear I d l m))
    ·go_ret2;obtain⟨r,e1,e2,e3,e4⟩:=EN.out trivial;exact⟨.inr (.inr ⟨K.out,r,HR.out.trans e1,e2,e3,_,_,_,rfl,e4⟩),iA (E.out.trans t.out) C.out (fun k z=>by omega)⟩
    ·exact⟨⟨n+1,by omega,by omega,by go_num,ES.out rfl,C⟩,by simp[intOf];omega⟩
    ·go_ret2;obtain⟨r,e1,e2,e3,e4⟩:=EN.out trivial;exact⟨.inr (.inr ⟨K.out,r,HR.out.trans e1,e2,e3,_,_,_,rfl,e4⟩),iA (E.out.trans t.out) C.out (fun k z=>by omega)⟩
    ·exact⟨⟨n+1,by omega,by omega,by go_num,ES.out rfl,C⟩,by simp[intOf];omega⟩
 ·go_enter func20, ntmps20
  go_wp2_with (go_at_call 13;refine CV.out.mono ?_;rintro e B ⟨rfl,g1⟩);go_ret2;exact⟨.inl ⟨by rw[K.out];exact aL,by rw[K.out];rfl⟩,E.out.trans g1⟩
theorem rr {B Bg:Nat}{f:Fn}{i:Rn.Inp}{w:World}{picks:List Int}{vpk:Value}(hRA:Ref.RcAll)(hf:VFn f)(hin:Rn.validInput f i=0)(ha:∀a∈i.args,0<=a){c:Cfg}(cn:c.n₀=B)(cf:c.f=f)(cch:c.ch=.iface 118 (.pointer (some ⟨Bg,0,none⟩)))
  (hp:PS c w (Rn.start f i) 0 (-1) (.slice none 0 0)) (hBm:c.Bm<w.heap.size) (hg:w.heap[Bg]?=some (.cells #[vpk,.int .i64 0] 120 (0,0))) (hv:U32At B w vpk picks) (hBg:B<=Bg/\¬Kept c Bg) (hr:∀z∈picks,0<=z/\z<4294967296) :
  Calls prog 48 #[.pointer (some ⟨c.Bs,0,none⟩)] w fun e w'=>∃vx,e=.returned (gS (Rn.run f (Rn.given picks) i).1 vx)/\∃(b frm:Int)(vq:Value),PS c w' (Rn.run f (Rn.given picks) i).2.1 b frm vq/\w'.heap[Bg]?=some (.cells #[vpk,.int .i64 (Rn.wids f i picks).length] 120 (0,0)) /\
   Own1 B 3 w' vq ((Rn.run f (Rn.given picks) i).2.2.map (Value.int .i64))/\Keeps (Dc c) w' vx (Rn.run f (Rn.given picks) i).1.mem/\FrS (fun k=>Mut c k\/k=Bg) w w':=by
 subst cn;subst cf;obtain⟨D,E,u,y⟩:=Rn.run_ok hRA hf.val hf.im hin ha picks;obtain⟨l,hl,t⟩:=Rn.start_ent hRA hin ha
 let ch:=sX c Bg vpk picks (Rn.wids c.f i picks) cch hr hBg (by omega)
 have r:ch.At w (Rn.start c.f i).widths (fun k=>k=Bg):=⟨hg,hv,rfl⟩;refine(gP (pick:=Rn.given picks) (fin:=Rn.wids c.f i picks) (b:=0) hp hBm hf hRA hl t (Rn.given_ok picks) ch r (vU _) (List.prefix_refl _)).mono ?_;rintro e w' ⟨rfl,b,frm,vq,C,j,A,m,p,F⟩;obtain⟨q,G,rfl⟩:=A;have g:Rn.from_ c.f (Rn.given picks) 401 0 (-1) (Rn.start c.f i)=Rn.run c.f (Rn.given picks) i:=rfl;rw[g]at j m q ⊢;have d:c.Bm<w'.heap.size:=by have:=p.size;omega
 refine⟨uf c _,rfl,b,frm,vq,j,q,mS m hp.n₀,lf j d hf.val u y,p⟩
def uy (f:Fn)(i:Rn.Inp)(picks:List Int)(B:Nat)(e:Ending)(w':World):Prop :=
 ∃(c:Cfg)(vx vq:Value)(b frm:Int),e=.returned (.tuple #[.pointer (some ⟨c.Bs,0,none⟩),gS (Rn.run f (Rn.given picks) i).1 vx,.int .i64 (Rn.wids f i picks).length])/\c.f=f/\PS c w' (Rn.run f (Rn.given picks) i).2.1 b frm vq /\
  Own1 B 3 w' vq ((Rn.run f (Rn.given picks) i).2.2.map (Value.int .i64))/\Keeps (Dc c) w' vx (Rn.run f (Rn.given picks) i).1.mem/\∀k,Kept c k->B<=k
theorem pW {w:World}{f:Fn}{vf:Value}(hfn:FnAt w.heap.size w vf f)(hf:VFn f){i:Rn.Inp}(hin:Rn.validInput f i=0){va vm:Value}(ha:U32At w.heap.size w va i.args)(hm:TabAt w.heap.size w vm i.mem)(hnn:∀a∈i.args,0<=a)
  {vpk:Value} {picks:List Int} (hpk:U32At w.heap.size w vpk picks) (hr:∀z∈picks,0<=z/\z<4294967296) :
  Calls prog 44 #[vf,.agg #[va,vm],vpk] w fun e w'=>uy f i picks w.heap.size e w'/\Gr w w':=by
 obtain⟨vp,vs,vb,rfl,hp,hs,hb⟩:=hfn;have af:Hid (FnAt w.heap.size w (.agg #[vp,.int .i64 f.ret,vs,vb]) f):=⟨vp,vs,vb,rfl,hp,hs,hb⟩;have HA:=dJ ha;have HM:=dJ hm;have ag:=dJ hnn;have ai:=dJ hpk;have ak:=dJ hr;obtain⟨W,hW⟩:=xJ (((w.alloc (.cells #[vp,.int .i64 f.ret,vs,vb] 25)).alloc (.cells #[va,vm] 29)).alloc (.cells #[.int .i64 0,.bool false,.int .i64 0,.int .u32 0,.slice none 0 0] 39));have g0:Gr w W:=by rw[<-hW];exact(((wL w).alloc _).alloc _).alloc _
 have M:W.heap.size=w.heap.size+3:=by rw[<-hW];simp
 obtain⟨W0,C⟩:=xJ (w.alloc (.cells #[vp,.int .i64 f.ret,vs,vb] 25));obtain⟨W1,t⟩:=xJ (W0.alloc (.cells #[va,vm] 29));have s0:W0.heap.size=w.heap.size+1:=by rw[<-C];simp
 have s1:W1.heap.size=w.heap.size+2:=by rw[<-t];simp[s0]
 have B:=hW;rw[C,t]at B;have t0:Gr W0 W1:=by rw[<-t];exact(wL _).alloc _
 have t1:Gr W1 W:=by rw[<-B];exact(wL _).alloc _
 have u:W.heap[w.heap.size]?=some (.cells #[vp,.int .i64 f.ret,vs,vb] 25 (0,0)):=(t1.heap _ (by omega)).trans ((t0.heap _ (by omega)).trans (by rw[<-C];exact heap_alloc_new _ _));have N:W.heap[w.heap.size+1]?=some (.cells #[va,vm] 29 (0,0)):=(t1.heap _ (by omega)).trans (by rw[<-t,<-s0];exact heap_alloc_new _ _);have ad:W.heap[w.heap.size+2]?=some (.cells #[.int .i64 0,.bool false,.int .i64 0,.int .u32 0,.slice none 0 0] 39 (0,0)):=by rw[<-B,<-s1];exact heap_alloc_new _ _
 obtain⟨l,J⟩:=xJ (W.alloc (.cells #[vpk,.int .i64 0] 120));have A:Gr W l:=by rw[<-J];exact(wL W).alloc _
 have ac:l.heap[W.heap.size]?=some (.cells #[vpk,.int .i64 0] 120 (0,0)):=by rw[<-J];exact heap_alloc_new _ _
 have G:l.heap.size=w.heap.size+4:=by rw[<-J];simp[M]
 have aj:Hid (l.heap[w.heap.size+1+1]?=some (.cells #[.int .i64 0,.bool false,.int .i64 0,.int .u32 0,.slice none 0 0] 39 (0,0))):=(A.heap _ (by omega)).trans ad;have k0:l.cell? ⟨w.heap.size,0,none⟩=some vp:=vX _ _ 0 _ _ _ ((A.heap _ (by omega)).trans u);have k1:l.cell? ⟨w.heap.size,1,none⟩=some (.int .i64 f.ret):=vX _ _ 1 _ _ _ ((A.heap _ (by omega)).trans u);have k2:l.cell? ⟨w.heap.size,2,none⟩=some vs:=vX _ _ 2 _ _ _ ((A.heap _ (by omega)).trans u);have k3:l.cell? ⟨w.heap.size,3,none⟩=some vb:=vX _ _ 3 _ _ _ ((A.heap _ (by omega)).trans u);have k4:l.cell? ⟨w.heap.size+1,0,none⟩=some va:=vX _ _ 0 _ _ _ ((A.heap _ (by omega)).trans N);have k5:l.cell? ⟨w.heap.size+1,1,none⟩=some vm:=vX _ _ 1 _ _ _ ((A.heap _ (by omega)).trans N);have HG:=dJ (g0.trans A);obtain⟨X,hX⟩:=xJ (Rn.run f (Rn.given picks) i);obtain⟨NW,I⟩:=xJ ((Rn.wids f i picks).length)
 have CS:Hid (Calls prog 47 #[.agg #[vp,.int .i64 f.ret,vs,vb],.agg #[va,vm],.iface 118 (.pointer (some ⟨W.heap.size,0,none⟩))] l fun e w5=>∃c:Cfg,e=.returned (.pointer (some ⟨c.Bs,0,none⟩))/\Hid (c.f=f/\c.n₀=w.heap.size/\∀k,Kept c k->w.heap.size+4<=k) /\
     Calls prog 48 #[.pointer (some ⟨c.Bs,0,none⟩)] w5 fun e w'=>∃vx,e=.returned (gS X.1 vx)/\∃(b r:Int)(R:Value),PS c w' X.2.1 b r R/\w'.heap[W.heap.size]?=some (.cells #[vpk,.int .i64 NW] 120 (0,0)) /\
       Own1 w.heap.size 3 w' R (X.2.2.map (Value.int .i64))/\Keeps (Dc c) w' vx X.1.mem/\FrS (fun k=>Mut c k\/k=W.heap.size) l w'):=by
  have O:Below w.heap.size w l:=HG.out;refine(jA (B0:=w.heap.size) (f:=f) (i:=i) (af.out.below O) (by omega) hf (U32At.below HA.out O) (HM.out.below O) hin _ _).mono ?_;rintro e w5 ⟨c,cn,cf,al,rfl,an,g5,hK,am⟩;refine⟨c,rfl,⟨cf,cn,fun k g=>by have:=hK k g;omega⟩,?_⟩;have ae:Below w.heap.size w w5:=HG.out.trans g5;rw[<-hX,<-I];refine(rr mr hf hin ag.out cn cf al an am ((g5.heap _ (by omega)).trans ac) (U32At.below ai.out ae) ⟨by omega,fun q=>by have:=hK _ q;omega⟩ ak.out).mono ?_;rintro e w' ⟨vx,rfl,b,r,R,r1,r2,r3,r4,r5⟩;exact⟨vx,rfl,b,r,R,r1,r2,r3,r4,(FrS.of_gr g5).trans r5⟩
 have HX:=dJ hX;have ah:=dJ I;have E:=dJ G;have y:=dJ M;obtain⟨Ap,cp,rfl,-⟩:=id hp;obtain⟨As,cs,rfl,-⟩:=id hs;obtain⟨Ab,cb,rfl,-⟩:=id hb;obtain⟨Aa,ca,rfl,-⟩:=id ha;obtain⟨Am,cm,rfl,-⟩:=id hm;obtain⟨Ak,ck,rfl,-⟩:=id hpk;clear hp hs hb ha hm hnn hpk hr hX I s0 s1 t0 t1 B C t u N ad ac G g0 A M;unfold gS at CS
 go_enter func44, ntmps44
 go_wp2_with (first|(go_at_call 47;refine CS.out.mono ?_;rintro e w5 ⟨c,rfl,aa,ab⟩;have S:=dJ aa.out;have CO:=dJ ab;clear ab aa)|(go_at_call 48;refine CO.out.mono ?_;rintro e w6 ⟨vx,rfl,b,r,R,r1,r2,r3,r4,r5⟩;obtain⟨D,F,rfl⟩:=r4.2.1;have R1:=dJ r1;have R2:=dJ r2;have R3:=dJ r3;have R4:=dJ r4;have R5:=dJ r5;clear r1 r2 r3 r4 r5))
 obtain⟨H,Z⟩:=xJ (w6.alloc (.cells #[.int .i64 X.1.kind,.bool X.1.ret.p,.int .i64 X.1.ret.s,.int .u32 X.1.ret.n,.slice D X.1.mem.length F] 39));have Q:Hid (Gr w6 H):=by show Gr _ _;rw[<-Z];exact(wL w6).alloc _
 obtain⟨b0,b1,b2,b3,b4⟩:=ed (w:=w6) (o:=X.1) (vm:=.slice D X.1.mem.length F) (w':=H) (by show Gr (w6.alloc _) H;rw[Z];exact wL _)
 have j:H.heap[w.heap.size+1+1]?=some (.cells #[.int .i64 0,.bool false,.int .i64 0,.int .u32 0,.slice none 0 0] 39 (0,0)):=(Q.out.heap _ (by have:=R5.out.size;have:=E.out;omega)).trans ((R5.out.block _ (by have:=E.out;omega) (fun q=>by
   rcases q with q|q
   · have:=S.out.2.2 _ (.inl q);omega
   · have:=y.out;omega)).trans aj.out)
 have ar:H.cell? ⟨W.heap.size,1,none⟩=some (.int .i64 NW):=vX _ _ 1 _ _ _ ((Q.out.heap _ (cY R2.out)).trans R2.out);obtain⟨f0,f1,f2,f3,f4⟩:=frw5 j 0 1 2 3 4;obtain⟨e0,e1,e2,e3,e4⟩:=crw5 j 0 1 2 3 4;have T:=dJ j;clear j;have ao:¬(w.heap.size+1+1=W.heap.size):=by have:=y.out;omega
 have ap:¬(W.heap.size=w.heap.size+1+1):=by have:=y.out;omega
 go_wp2
 go_region
 all_goals go_wp2
 have Y:=(((((FrS.refl (·=w.heap.size+1+1) H).setCell (p:=⟨w.heap.size+1+1,0,none⟩) rfl (.int .i64 X.1.kind)).setCell (p:=⟨w.heap.size+1+1,1,none⟩) rfl (.bool X.1.ret.p)).setCell (p:=⟨w.heap.size+1+1,2,none⟩) rfl (.int .i64 X.1.ret.s)).setCell (p:=⟨w.heap.size+1+1,3,none⟩) rfl (.int .u32 X.1.ret.n)).setCell (p:=⟨w.heap.size+1+1,4,none⟩) rfl (.slice D X.1.mem.length F);have h9:=cX (i:=4) (.slice D X.1.mem.length F) (cX (i:=3) (.int .u32 X.1.ret.n) (cX (i:=2) (.int .i64 X.1.ret.s) (cX (i:=1) (.bool X.1.ret.p) (cX (i:=0) (.int .i64 X.1.kind) T.out))));obtain⟨W8,K⟩:=xJ (((((H.setCell ⟨w.heap.size+1+1,0,none⟩ (.int .i64 X.1.kind)).setCell ⟨w.heap.size+1+1,1,none⟩ (.bool X.1.ret.p)).setCell ⟨w.heap.size+1+1,2,none⟩ (.int .i64 X.1.ret.s)).setCell ⟨w.heap.size+1+1,3,none⟩ (.int .u32 X.1.ret.n)).setCell ⟨w.heap.size+1+1,4,none⟩ (.slice D X.1.mem.length F));rw[K]at Y h9;rw[K];have m:W8.drew.heap[w.heap.size+1+1]?=_:=h9;obtain⟨U,L⟩:=xJ W8.drew;have d:=Y.drew;rw[L]at m d;rw[L];have q0:U.cell? ⟨w.heap.size+1+1,0,none⟩=some (.int .i64 X.1.kind):=vX _ _ 0 _ _ _ m;have q1:U.cell? ⟨w.heap.size+1+1,1,none⟩=some (.bool X.1.ret.p):=vX _ _ 1 _ _ _ m;have q2:U.cell? ⟨w.heap.size+1+1,2,none⟩=some (.int .i64 X.1.ret.s):=vX _ _ 2 _ _ _ m;have q3:U.cell? ⟨w.heap.size+1+1,3,none⟩=some (.int .u32 X.1.ret.n):=vX _ _ 3 _ _ _ m;have q4:U.cell? ⟨w.heap.size+1+1,4,none⟩=some (.slice D X.1.mem.length F):=vX _ _ 4 _ _ _ m;refine vZ (v:=.tuple #[.pointer (some ⟨c.Bs,0,none⟩),.agg #[.int .i64 X.1.kind,.bool X.1.ret.p,.int .i64 X.1.ret.s,.int .u32 X.1.ret.n,.slice D X.1.mem.length F],.int .i64 NW]) (by simp[results,results44,go_sem,q0,q1,q2,q3,q4]) rfl ?_;clear L K;obtain⟨c1,c2,c3⟩:=S.out;have hS:∀k,k=w.heap.size+1+1->c.n₀<=k/\¬Kept c k:=fun k g=>⟨by omega,fun q=>by have:=c3 k q;omega⟩;refine⟨⟨c,.slice D X.1.mem.length F,R,b,r,?_,c1,?_,?_,?_,fun k g=>by have:=c3 k g;omega⟩,?_⟩
 ·rw[HX.out,ah.out];rfl
 ·rw[HX.out];exact(R1.out.gr Q.out).away hS d
 ·rw[HX.out];have h3:=ew R3.out Q.out
  exact dr h3 fun k g=>d.block k (dg h3 g).2.1 fun q=>by obtain⟨-,-,aq,q2⟩:=dg h3 g;exact dn q2 T.out (by decide) q
 ·rw[HX.out];exact(R4.out.gr Q.out).frs d fun k g q=>(hS k q).2 g.kept
 ·refine iA HG.out ((R5.out.mono (S':=fun k=>w.heap.size<=k) fun k g=>?_).trans ((FrS.of_gr Q.out).trans (d.mono fun k g=>?_))) (fun k g=>g)
  ·rcases g with g|g
   ·have:=c3 k (.inl g);omega
   ·have:=y.out;omega
  ·show _<=k;omega
end
