/- Parts. -/
import Derived.Test.YtjkajidbdmbbaaaGreatI42
set_option linter.unusedSimpArgs false
set_option linter.unusedVariables false
set_option maxRecDepth 100000
set_option maxHeartbeats 16000000
open Go.Proofs.Tryz
namespace Go.Proofs.YtjkajidbdmbbaaaGreat
section
open Go.RowKit
def en {α:Type}(d:α)(rs:List α)(n k:Nat):List α:=rs.take k++List.replicate (n-k) d
theorem gs {α:Type}(d:α)(rs:List α)(n k:Nat)(h:k<=rs.length)(hn:rs.length<=n):(en d rs n k).length=n:=by unfold en;simp;omega
theorem ic {α:Type}(d:α)(rs:List α)(n:Nat):en d rs n 0=List.replicate n d:=by unfold en;simp
theorem hU {α:Type}(d:α)(rs:List α)(n k:Nat)(hn:rs.length<=n)(v:α)(h:rs[k]?=some v):(en d rs n k).set k v=en d rs n (k+1):=by
 have p:=(sR.1 h).1;apply List.ext_getElem?;intro i;have g:(rs.take k).length=k:=by simp;omega
 have j:(rs.take (k+1)).length=k+1:=by simp;omega
 by_cases e:k=i
 ·subst e;rw[tL (by rw[gs _ _ _ _ (by omega) hn];omega)];unfold en;rw[te (by omega),tk,tB (by omega),h]
 ·rw[List.getElem?_set_ne e];unfold en;by_cases l:i<k
  ·rw[te (by omega),te (by omega),tk,tk,tB l,tB (by omega)]
  ·rw[tj (by omega),tj (by omega),g,j,tr,tr];by_cases m:i<n
   ·rw[tB (by omega),tB (by omega)]
   ·rw[tC (by omega),tC (by omega)]
theorem pE (n:Nat):madeCells #[Value.bool false] (n*1)=((List.replicate n false).map Value.bool).toArray:=by
 apply Array.ext_getElem?;intro i;rcases tF i n with h|h
 ·unfold madeCells;rw[Array.getElem?_map,Array.getElem?_range,tB (by omega)];simp[h,Nat.mod_one]
 ·rw[Array.getElem?_eq_none (by rw[size_madeCells];omega),Array.getElem?_eq_none (by simp;omega)]
theorem pF (w:World)(n:Nat)(hn:n<=1000):(Instr.makeSlice 111 (.int .i64 n) (.int .i64 n)).run prog w=.ok (.slice (some ⟨w.heap.size,0,none⟩) n n) (w.alloc (.cells ((List.replicate n false).map Value.bool).toArray 4)):=by obtain⟨m,g,j,d,l⟩:=info_parts jt;have:=run_makeSlice (P:=prog) (w:=w) 111 4 m _ underlying111 g j .i64 .i64 n n (by omega) (by omega) (by rw[d];omega) (by rw[l];omega) (by omega);rw[this,d];simp only[tc];rw[show (Value.bool false).cells=#[Value.bool false] from rfl,pE]
def rM (vp:Value)(ret:Int)(vs vb ch a5 a6 a7 a8:Value):Array Value:=#[vp,.int .i64 ret,vs,vb,ch,a5,a6,a7,a8,.int .i64 0,.int .i64 (-1),.int .i64 0,.slice none 0 0]
structure SS (N:Nat)(w0 w:World)(vp:Value)(ret:Int)(vs vb ch va vm a5 a6 a7 a8:Value):Prop where
 gr:Gr w0 w
 n:N=w0.heap.size
 fb:w.heap[N]?=some (.cells #[vp,.int .i64 ret,vs,vb] 36 (0,0))
 ib:w.heap[N+1]?=some (.cells #[va,vm] 41 (0,0))
 st:w.heap[N+2]?=some (.cells (rM vp ret vs vb ch a5 a6 a7 a8) 145 (0,0))
section
variable {N:Nat}{w0 w w' w2:World}{vp vs vb ch va vm a5 a6 a7 a8 v':Value}{ret:Int}{S:Nat->Prop}{e:TypeId}{xs ys:List Value}{tmp:Obj}
theorem SS.lt (h:SS N w0 w vp ret vs vb ch va vm a5 a6 a7 a8):N+3<=w.heap.size:=by have:=cX h.st;omega
theorem SS.keep (h:SS N w0 w vp ret vs vb ch va vm a5 a6 a7 a8)(hF:FrS S w w')(hS:∀k,S k->N+3<=k):SS N w0 w' vp ret vs vb ch va vm a5 a6 a7 a8 where
 gr:=Gr.below h.gr (hF.below (n:=N) (fun k d=>by have:=hS k d;omega) (by have:=h.lt;omega)) (by rw[h.n];exact tS _)
 n:=h.n
 fb:=(hF.block _ (cX h.fb) (fun q=>by have:=hS _ q;omega)).trans h.fb
 ib:=(hF.block _ (cX h.ib) (fun q=>by have:=hS _ q;omega)).trans h.ib
 st:=(hF.block _ (cX h.st) (fun q=>by have:=hS _ q;omega)).trans h.st
theorem SS.grow (h:SS N w0 w vp ret vs vb ch va vm a5 a6 a7 a8)(g:Gr w w'):SS N w0 w' vp ret vs vb ch va vm a5 a6 a7 a8:=h.keep (FrS.of_gr (S:=fun _=>False) g) (fun _ q=>q.elim)
theorem SS.put (h:SS N w0 w vp ret vs vb ch va vm a5 a6 a7 a8)(i:Nat)(v:Value){b5 b6 b7 b8:Value}(hr:(rM vp ret vs vb ch a5 a6 a7 a8).setIfInBounds i v=rM vp ret vs vb ch b5 b6 b7 b8):SS N w0 (w.setCell ⟨N+2,i,none⟩ v) vp ret vs vb ch va vm b5 b6 b7 b8 where
 gr:=Gr.setCell h.gr (p:=⟨N+2,i,none⟩) (by have:=h.n;show w0.heap.size<=N+2;omega) v
 n:=h.n
 fb:=(tH _ _ _ _ (by show N≠N+2;omega)).trans h.fb
 ib:=(tH _ _ _ _ (by show N+1≠N+2;omega)).trans h.ib
 st:=by have:=cY (i:=i) v h.st;rw[hr]at this;exact this
theorem SS.push (h:SS N w0 w vp ret vs vb ch va vm a5 a6 a7 a8){v:Value}(ho:Own1 (N+3) e w v xs)(hg:(w.alloc tmp).grownBy w2 v.ownBlock)(ho2:Own1 (N+3) e w2 v' ys) :
  SS N w0 w2 vp ret vs vb ch va vm a5 a6 a7 a8/\(∀i,Own1 (N+3) e (w2.setCell ⟨N+2,i,none⟩ v') v' ys)/\∀i,FrS (fun k=>v.ownBlock=some k\/k=N+2) w (w2.setCell ⟨N+2,i,none⟩ v'):=by
 have g:FrS (fun k=>v.ownBlock=some k) w w2:=((FrS.refl _ w).alloc tmp).grown hg (fun k d=>.inl d);refine⟨h.keep g (fun k d=>(de ho d).1),fun i=>dh ho2 fun k d=>tH _ _ _ _ (by have:=(de ho2 d).1;show k≠N+2;omega),fun i=>(g.mono fun k d=>.inl d).setCell (p:=⟨N+2,i,none⟩) (.inr rfl) _⟩
end
def frL (f:Fn)(k:Nat):List Value:=(List.range k).map fun j=>Value.int .i64 (Ref.number f j:Nat)
theorem kr (f:Fn)(k:Nat):(frL f k).length=k:=by unfold frL;simp
theorem pt (f:Fn)(k:Nat):frL f (k+1)=frL f k++[Value.int .i64 (Ref.number f k:Nat)]:=by unfold frL;rw[List.range_succ,List.map_append];rfl
structure MK (N:Nat)(W T:World)(row:Array Value)(bs:List (Nat × Obj)):Prop where
 fr:FrS (·=N+2) W T
 st:T.heap[N+2]?=some (.cells row 145 (0,0))
 at_:∀p∈bs,T.heap[p.1]?=some p.2/\W.heap.size<=p.1
theorem MK.start {N:Nat}{W:World}{row:Array Value}(h:W.heap[N+2]?=some (.cells row 145 (0,0))):MK N W W.drew row []:=⟨(FrS.refl _ W).drew,h,fun p d=>by cases d⟩
theorem MK.alloc {N:Nat}{W T:World}{row:Array Value}{bs:List (Nat × Obj)}(h:MK N W T row bs)(o:Obj):MK N W (T.alloc o) row ((T.heap.size,o)::bs) where
 fr:=h.fr.alloc o
 st:=(((tX T).alloc o).heap _ (cX h.st)).trans h.st
 at_:=fun p d=>by
  rcases List.mem_cons.1 d with rfl|d
  ·exact⟨heap_alloc_new T o,h.fr.size⟩
  ·exact⟨(((tX T).alloc o).heap _ (cX (h.at_ p d).1)).trans (h.at_ p d).1,(h.at_ p d).2⟩
theorem MK.set {N:Nat}{W T:World}{row:Array Value}{bs:List (Nat × Obj)}(h:MK N W T row bs)(hN:N+2<W.heap.size)(i:Nat)(v:Value):MK N W (T.setCell ⟨N+2,i,none⟩ v) (row.setIfInBounds i v) bs where
 fr:=h.fr.setCell (p:=⟨N+2,i,none⟩) rfl v
 st:=cY v h.st
 at_:=fun p d=>⟨(tH _ _ _ _ (by have:=(h.at_ p d).2;show p.1≠N+2;omega)).trans (h.at_ p d).1,(h.at_ p d).2⟩
theorem MK.mono {N:Nat}{W T:World}{row:Array Value}{bs bs':List (Nat × Obj)}(h:MK N W T row bs)(hb:∀p∈bs',p∈bs):MK N W T row bs':=⟨h.fr,h.st,fun p d=>h.at_ p (hb p d)⟩
theorem qu {N:Nat}{W:World}{row:Array Value}(h:W.heap[N+2]?=some (.cells row 145 (0,0)))(v5 v6:Value)(c1 c2:Array Value)(t1 t2:TypeId) :
  MK N W (((((W.setCell ⟨N+2,5,none⟩ v5).setCell ⟨N+2,6,none⟩ v6).alloc (.cells c1 t1)).alloc (.cells c2 t2)).drew) ((row.setIfInBounds 5 v5).setIfInBounds 6 v6) [(W.heap.size,.cells c1 t1 (0,0)),(W.heap.size+1,.cells c2 t2 (0,0))]:=by
 have hN:=cX h;have m:MK N W W row []:=⟨FrS.refl _ W,h,fun p d=>by cases d⟩;have g:=(((m.set hN 5 v5).set hN 6 v6).alloc (.cells c1 t1)).alloc (.cells c2 t2);have j:((W.setCell ⟨N+2,5,none⟩ v5).setCell ⟨N+2,6,none⟩ v6).heap.size=W.heap.size:=by simp
 have l:(((W.setCell ⟨N+2,5,none⟩ v5).setCell ⟨N+2,6,none⟩ v6).alloc (.cells c1 t1)).heap.size=W.heap.size+1:=by simp
 rw[j,l]at g
 exact⟨g.fr.drew,g.st,fun p d=>g.at_ p (by
   rcases List.mem_cons.1 d with rfl|d
   · exact List.mem_cons_of_mem _ (List.mem_cons_self)
   · rcases List.mem_cons.1 d with rfl|d
     · exact List.mem_cons_self
     · cases d)⟩
def usV (us:List (Nat × Nat))(mem:List (List Int)):List Value:=List.zipWith (fun u l=>Value.slice (some ⟨u.1,0,none⟩) l.length u.2) us mem
structure MU (N:Nat)(w:World)(us:List (Nat × Nat))(mem:List (List Int))(vf:Value):Prop where
 row:∀(j b cp:Nat)(l:List Int),us[j]?=some (b,cp)->mem[j]?=some l->N+3<=b/\l.length<=cp/\cp<=9223372036854775807/\∃cur:Array Value,w.heap[b]?=some (.cells cur 3 (0,0))/\∀(i:Nat)(z:Int),l[i]?=some z->cur[i]?=some (.int .i64 z)
 apart:(us.map (·.1)).Nodup
 off:∀u∈us,vf.ownBlock≠some u.1
 all:∀u∈us,u.1<w.heap.size
theorem MU.nil (N:Nat)(w:World)(mem:List (List Int))(vf:Value):MU N w [] mem vf:=⟨fun j b d l h=>by simp at h,List.nodup_nil,fun u h=>(by cases h),fun u h=>(by cases h)⟩
theorem MU.keep {N:Nat}{w w':World}{us:List (Nat × Nat)}{mem:List (List Int)}{vf:Value}(h:MU N w us mem vf)(hle:us.length<=mem.length){S:Nat->Prop}(hF:FrS S w w')(hS:∀u∈us,¬S u.1):MU N w' us mem vf where
 row:=fun j b p l g q=>by obtain⟨t,y,z,d,m,A⟩:=h.row j b p l g q;exact⟨t,y,z,d,(hF.block b (cX m) (hS _ (sS g))).trans m,A⟩
 apart:=h.apart
 off:=h.off
 all:=fun u r=>by have:=h.all u r;have:=hF.size;omega
theorem lg (us:List (Nat × Nat))(mem:List (List Int))(h:us.length<=mem.length):(usV us mem).length=us.length:=by unfold usV;simp;omega
theorem lF:∀(us:List (Nat × Nat))(mem:List (List Int))(u:Nat × Nat)(l:List Int),mem[us.length]?=some l->usV (us++[u]) mem=usV us mem++[Value.slice (some ⟨u.1,0,none⟩) l.length u.2]
 | [],[],u,l,h=>by simp at h
 | [],m::ms,u,l,h=>by simp at h;subst h;simp[usV]
 | v::vs,[],u,l,h=>by simp at h
 | v::vs,m::ms,u,l,h=>by
  have:=lF vs ms u l (by simpa using h)
  simp only[usV,List.cons_append,List.zipWith_cons_cons]at this ⊢;rw[this]
theorem mT {P:Program}{w:World}{ops:Array Oper}{o:Oper}{a:Act}{K:Act->World->Prop}{Q:Exit->Act->World->Prop}{F:Prop}{f:FuncId}{args:Array Value}
  (hg:o.guard=none) (hr:(execOp a.eval o).run P w=.ok (.enter f args) w) (hc:Calls P f args w fun e w'=>∃v,e=.returned v/\K (a.put o.dst v) w') :
  if Region.wanted o (yielded ops a.tmps)=true then Oper.wp P o a w K Q else F:=by
 have j:Region.wanted o (yielded ops a.tmps)=true:=by simp[Region.wanted,hg]
 rw[tB j];unfold Oper.wp;rw[hr];exact hc.mono fun e w' ⟨v,d,g⟩=>by subst d;exact g
section
variable {P:Program}{w:World}
end
def sP (vp:Value)(ret:Int)(vs vb vm pk va vh:Value):Array Value:=#[vp,.int .i64 ret,vs,vb,vm,pk,.int .i64 0,.bool false,.int .i64 0,.int .u32 0,rQ,rQ,rQ,.int .i64 0,va,vh]
structure WS (N:Nat)(W w:World)(row:Array Value):Prop where
 fr:FrS (·=N) W w
 st:w.heap[N]?=some (.cells row 158 (0,0))
section
variable {N:Nat}{W w w' w2:World}{row row':Array Value}{v v':Value}{e:TypeId}{xs ys:List Value}{tmp:Obj}{S:Nat->Prop}
theorem WS.keep (h:WS N W w row)(hF:FrS S w w')(hS:∀k,S k->W.heap.size<=k)(hN:N<W.heap.size):WS N W w' row where
 fr:=by refine(FrS.weaken (S:=fun k=>k=N\/W.heap.size<=k) ((h.fr.mono fun k hk=>.inl hk).trans (hF.mono fun k hk=>.inr (hS k hk))) fun k hk q=>q.elim (fun e=>e) (fun e=>by omega))
 st:=(hF.block _ (cX h.st) (fun q=>by have:=hS _ q;omega)).trans h.st
theorem WS.grow (h:WS N W w row)(g:Gr w w')(hN:N<W.heap.size):WS N W w' row:=h.keep (FrS.of_gr (S:=fun _=>False) g) (fun _ q=>q.elim) hN
theorem WS.put (h:WS N W w row)(i:Nat)(v:Value)(hr:row.setIfInBounds i v=row'):WS N W (w.setCell ⟨N,i,none⟩ v) row':=⟨h.fr.setCell (p:=⟨N,i,none⟩) rfl v,by have:=cY (i:=i) v h.st;rw[hr]at this;exact this⟩
end
section
variable {N k n b cap c8 c2:Nat}{W w wr w1 w2:World}{vp vs vb pk va vh:Value}{ret:Int}{us:List (Nat × Nat)}{mem:List (List Int)}{l:List Int}{A8 A2:Option Addr}{tmp:Obj}
structure WM (N n:Nat)(W w:World)(vp:Value)(ret:Int)(vs vb vm pk:Value)(us:List (Nat × Nat))(mem:List (List Int))(Bv Bh:Nat)(vals:List Rn.V)(had:List Bool):Prop where
 ws:WS (N+3) W w (sP vp ret vs vb vm pk (.slice (some ⟨Bv,0,none⟩) n n) (.slice (some ⟨Bh,0,none⟩) n n))
 mu:MU (N+1) w us mem rQ
 row:Own1 (N+4) 33 w vm (usV us mem)
 hv:w.heap[Bv]?=some (.cells (dF vals).toArray 24 (0,0))
 hh:w.heap[Bh]?=some (.cells (had.map Value.bool).toArray 4 (0,0))
 vN:N+4<=Bv
 hN:N+4<=Bh
theorem WM.grow (hW:W.heap.size=N+4){vm:Value}{Bv Bh:Nat}{vals:List Rn.V}{had:List Bool}(h:WM N n W wr vp ret vs vb vm pk us mem Bv Bh vals had)(hle:us.length<=mem.length)(g:Gr wr w1):WM N n W w1 vp ret vs vb vm pk us mem Bv Bh vals had where
 ws:=h.ws.grow g (by omega)
 mu:=h.mu.keep hle (FrS.of_gr (S:=fun _=>False) g) (fun _ _ q=>q)
 row:=h.row.gr g
 hv:=(g.heap _ (cX h.hv)).trans h.hv
 hh:=(g.heap _ (cX h.hh)).trans h.hh
 vN:=h.vN
 hN:=h.hN
end
end
