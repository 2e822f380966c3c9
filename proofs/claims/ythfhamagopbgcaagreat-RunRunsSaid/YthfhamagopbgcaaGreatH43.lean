/- Parts: Rt Em. -/
import Derived.Test.YthfhamagopbgcaaGreatH42
import Derived.Test.YthfhamagopbgcaaGreatH41
set_option linter.unusedSimpArgs false
set_option linter.unusedVariables false
set_option maxRecDepth 100000
set_option maxHeartbeats 16000000
open Go.Proofs.Tryz
namespace Go.Proofs.YthfhamagopbgcaaGreat
section
open Go.RowKit
def eu {α:Type}(d:α)(rs:List α)(n k:Nat):List α:=rs.take k++List.replicate (n-k) d
theorem fo {α:Type}(d:α)(rs:List α)(n k:Nat)(h:k<=rs.length)(hn:rs.length<=n):(eu d rs n k).length=n:=by unfold eu;simp;omega
theorem fB {α:Type}(d:α)(rs:List α)(n:Nat):eu d rs n 0=List.replicate n d:=by unfold eu;simp
theorem fA {α:Type}(d:α)(rs:List α)(n k:Nat)(hn:rs.length<=n)(v:α)(h:rs[k]?=some v):(eu d rs n k).set k v=eu d rs n (k+1):=by
 have p:=(vy.1 h).1;apply List.ext_getElem?;intro i;have g:(rs.take k).length=k:=by simp;omega
 have j:(rs.take (k+1)).length=k+1:=by simp;omega
 by_cases e:k=i
 ·subst e;rw[ww (by rw[fo _ _ _ _ (by omega) hn];omega)];unfold eu;rw[vJ (by omega),vL,wa (by omega),h]
 ·rw[List.getElem?_set_ne e];unfold eu;by_cases l:i<k
  ·rw[vJ (by omega),vJ (by omega),vL,vL,wa l,wa (by omega)]
  ·rw[vK (by omega),vK (by omega),g,j,vR,vR];by_cases m:i<n
   ·rw[wa (by omega),wa (by omega)]
   ·rw[wb (by omega),wb (by omega)]
theorem rG (n:Nat):madeCells #[Value.bool false] (n*1)=((List.replicate n false).map Value.bool).toArray:=by
 apply Array.ext_getElem?;intro i;rcases wh i n with h|h
 ·unfold madeCells;rw[Array.getElem?_map,Array.getElem?_range,wa (by omega)];simp[h,Nat.mod_one]
 ·rw[Array.getElem?_eq_none (by rw[size_madeCells];omega),Array.getElem?_eq_none (by simp;omega)]
theorem mO (w:World)(n:Nat)(hn:n<=1000):(Instr.makeSlice 79 (.int .i64 n) (.int .i64 n)).run prog w=.ok (.slice (some ⟨w.heap.size,0,none⟩) n n) (w.alloc (.cells ((List.replicate n false).map Value.bool).toArray 4)):=by
 obtain⟨m,g,j,d,l⟩:=info_parts kO;have:=run_makeSlice (P:=prog) (w:=w) 79 4 m _ underlying79 g j .i64 .i64 n n (by omega) (by omega) (by rw[d];omega) (by rw[l];omega) (by omega);rw[this,d];simp only[vG];rw[show (Value.bool false).cells=#[Value.bool false] from rfl,rG]
def tZ (vp:Value)(ret:Int)(vs vb ch a5 a6 a7 a8:Value):Array Value:=#[vp,.int .i64 ret,vs,vb,ch,a5,a6,a7,a8,.int .i64 0,.int .i64 (-1),.int .i64 0,.slice none 0 0]
structure SS (N:Nat)(w0 w:World)(vp:Value)(ret:Int)(vs vb ch va vm a5 a6 a7 a8:Value):Prop where
 gr:Gr w0 w
 n:N=w0.heap.size
 fb:w.heap[N]?=some (.cells #[vp,.int .i64 ret,vs,vb] 25 (0,0))
 ib:w.heap[N+1]?=some (.cells #[va,vm] 29 (0,0))
 st:w.heap[N+2]?=some (.cells (tZ vp ret vs vb ch a5 a6 a7 a8) 100 (0,0))
section
variable {N:Nat}{w0 w w' w2:World}{vp vs vb ch va vm a5 a6 a7 a8 v':Value}{ret:Int}{S:Nat->Prop}{e:TypeId}{xs ys:List Value}{tmp:Obj}
theorem SS.lt (h:SS N w0 w vp ret vs vb ch va vm a5 a6 a7 a8):N+3<=w.heap.size:=by have:=cY h.st;omega
theorem SS.keep (h:SS N w0 w vp ret vs vb ch va vm a5 a6 a7 a8)(hF:FrS S w w')(hS:∀k,S k->N+3<=k):SS N w0 w' vp ret vs vb ch va vm a5 a6 a7 a8 where
 gr:=Gr.below h.gr (hF.below (n:=N) (fun k d=>by have:=hS k d;omega) (by have:=h.lt;omega)) (by rw[h.n];exact vV _)
 n:=h.n
 fb:=(hF.block _ (cY h.fb) (fun q=>by have:=hS _ q;omega)).trans h.fb
 ib:=(hF.block _ (cY h.ib) (fun q=>by have:=hS _ q;omega)).trans h.ib
 st:=(hF.block _ (cY h.st) (fun q=>by have:=hS _ q;omega)).trans h.st
theorem SS.grow (h:SS N w0 w vp ret vs vb ch va vm a5 a6 a7 a8)(g:Gr w w'):SS N w0 w' vp ret vs vb ch va vm a5 a6 a7 a8:=h.keep (FrS.of_gr (S:=fun _=>False) g) (fun _ q=>q.elim)
theorem SS.put (h:SS N w0 w vp ret vs vb ch va vm a5 a6 a7 a8)(i:Nat)(v:Value){b5 b6 b7 b8:Value}(hr:(tZ vp ret vs vb ch a5 a6 a7 a8).setIfInBounds i v=tZ vp ret vs vb ch b5 b6 b7 b8):SS N w0 (w.setCell ⟨N+2,i,none⟩ v) vp ret vs vb ch va vm b5 b6 b7 b8 where
 gr:=Gr.setCell h.gr (p:=⟨N+2,i,none⟩) (by have:=h.n;show w0.heap.size<=N+2;omega) v
 n:=h.n
 fb:=(wk _ _ _ _ (by show N≠N+2;omega)).trans h.fb
 ib:=(wk _ _ _ _ (by show N+1≠N+2;omega)).trans h.ib
 st:=by have:=cX (i:=i) v h.st;rw[hr] at this;exact this
theorem SS.push (h:SS N w0 w vp ret vs vb ch va vm a5 a6 a7 a8){v:Value}(ho:Own1 (N+3) e w v xs)(hg:(w.alloc tmp).grownBy w2 v.ownBlock)(ho2:Own1 (N+3) e w2 v' ys) :
  SS N w0 w2 vp ret vs vb ch va vm a5 a6 a7 a8/\(∀i,Own1 (N+3) e (w2.setCell ⟨N+2,i,none⟩ v') v' ys)/\∀i,FrS (fun k=>v.ownBlock=some k\/k=N+2) w (w2.setCell ⟨N+2,i,none⟩ v'):=by
 have g:FrS (fun k=>v.ownBlock=some k) w w2:=((FrS.refl _ w).alloc tmp).grown hg (fun k d=>.inl d);refine⟨h.keep g (fun k d=>(dg ho d).1),fun i=>dr ho2 fun k d=>wk _ _ _ _ (by have:=(dg ho2 d).1;show k≠N+2;omega),fun i=>(g.mono fun k d=>.inl d).setCell (p:=⟨N+2,i,none⟩) (.inr rfl) _⟩
end
def frL (f:Fn)(k:Nat):List Value:=(List.range k).map fun j=>Value.int .i64 (Ref.number f j:Nat)
theorem lU (f:Fn)(k:Nat):(frL f k).length=k:=by unfold frL;simp
theorem rq (f:Fn)(k:Nat):frL f (k+1)=frL f k++[Value.int .i64 (Ref.number f k:Nat)]:=by unfold frL;rw[List.range_succ,List.map_append];rfl
structure MK (N:Nat)(W T:World)(row:Array Value)(bs:List (Nat × Obj)):Prop where
 fr:FrS (·=N+2) W T
 st:T.heap[N+2]?=some (.cells row 100 (0,0))
 at_:∀p∈bs,T.heap[p.1]?=some p.2/\W.heap.size<=p.1
theorem MK.start {N:Nat}{W:World}{row:Array Value}(h:W.heap[N+2]?=some (.cells row 100 (0,0))):MK N W W.drew row []:=⟨(FrS.refl _ W).drew,h,fun p d=>by cases d⟩
theorem MK.alloc {N:Nat}{W T:World}{row:Array Value}{bs:List (Nat × Obj)}(h:MK N W T row bs)(o:Obj):MK N W (T.alloc o) row ((T.heap.size,o)::bs) where
 fr:=h.fr.alloc o
 st:=(((wL T).alloc o).heap _ (cY h.st)).trans h.st
 at_:=fun p d=>by
  rcases List.mem_cons.1 d with rfl|d
  ·exact⟨heap_alloc_new T o,h.fr.size⟩
  ·exact⟨(((wL T).alloc o).heap _ (cY (h.at_ p d).1)).trans (h.at_ p d).1,(h.at_ p d).2⟩
theorem MK.set {N:Nat}{W T:World}{row:Array Value}{bs:List (Nat × Obj)}(h:MK N W T row bs)(hN:N+2<W.heap.size)(i:Nat)(v:Value):MK N W (T.setCell ⟨N+2,i,none⟩ v) (row.setIfInBounds i v) bs where
 fr:=h.fr.setCell (p:=⟨N+2,i,none⟩) rfl v
 st:=cX v h.st
 at_:=fun p d=>⟨(wk _ _ _ _ (by have:=(h.at_ p d).2;show p.1≠N+2;omega)).trans (h.at_ p d).1,(h.at_ p d).2⟩
theorem MK.mono {N:Nat}{W T:World}{row:Array Value}{bs bs':List (Nat × Obj)}(h:MK N W T row bs)(hb:∀p∈bs',p∈bs):MK N W T row bs':=⟨h.fr,h.st,fun p d=>h.at_ p (hb p d)⟩
theorem sG {N:Nat}{W:World}{row:Array Value}(h:W.heap[N+2]?=some (.cells row 100 (0,0)))(v5 v6:Value)(c1 c2:Array Value)(t1 t2:TypeId) :
  MK N W (((((W.setCell ⟨N+2,5,none⟩ v5).setCell ⟨N+2,6,none⟩ v6).alloc (.cells c1 t1)).alloc (.cells c2 t2)).drew) ((row.setIfInBounds 5 v5).setIfInBounds 6 v6) [(W.heap.size,.cells c1 t1 (0,0)),(W.heap.size+1,.cells c2 t2 (0,0))]:=by
 have hN:=cY h;have m:MK N W W row []:=⟨FrS.refl _ W,h,fun p d=>by cases d⟩;have g:=(((m.set hN 5 v5).set hN 6 v6).alloc (.cells c1 t1)).alloc (.cells c2 t2);have j:((W.setCell ⟨N+2,5,none⟩ v5).setCell ⟨N+2,6,none⟩ v6).heap.size=W.heap.size:=by simp
 have l:(((W.setCell ⟨N+2,5,none⟩ v5).setCell ⟨N+2,6,none⟩ v6).alloc (.cells c1 t1)).heap.size=W.heap.size+1:=by simp
 rw[j,l] at g
 exact⟨g.fr.drew,g.st,fun p d=>g.at_ p (by
   rcases List.mem_cons.1 d with rfl|d
   · exact List.mem_cons_of_mem _ (List.mem_cons_self)
   · rcases List.mem_cons.1 d with rfl|d
     · exact List.mem_cons_self
     · cases d)⟩
def usV (us:List (Nat × Nat))(mem:List (List Int)):List Value:=List.zipWith (fun u l=>Value.slice (some ⟨u.1,0,none⟩) l.length u.2) us mem
structure MU (N:Nat)(w:World)(us:List (Nat × Nat))(mem:List (List Int))(vf:Value):Prop where
 row:∀(j b cp:Nat) (l:List Int),us[j]?=some (b,cp)->mem[j]?=some l->N+3<=b/\l.length<=cp/\cp<=9223372036854775807/\∃cur:Array Value,w.heap[b]?=some (.cells cur 3 (0,0))/\∀(i:Nat) (z:Int),l[i]?=some z->cur[i]?=some (.int .i64 z)
 apart:(us.map (·.1)).Nodup
 off:∀u∈us,vf.ownBlock≠some u.1
 all:∀u∈us,u.1<w.heap.size
theorem MU.nil (N:Nat)(w:World)(mem:List (List Int))(vf:Value):MU N w [] mem vf:=⟨fun j b d l h=>by simp at h,List.nodup_nil,fun u h=>(by cases h),fun u h=>(by cases h)⟩
theorem MU.keep {N:Nat}{w w':World}{us:List (Nat × Nat)}{mem:List (List Int)}{vf:Value}(h:MU N w us mem vf)(hle:us.length<=mem.length){S:Nat->Prop}(hF:FrS S w w')(hS:∀u∈us,¬S u.1):MU N w' us mem vf where
 row:=fun j b p l g q=>by
  obtain⟨t,y,z,d,m,A⟩:=h.row j b p l g q;exact⟨t,y,z,d,(hF.block b (cY m) (hS _ (vz g))).trans m,A⟩
 apart:=h.apart
 off:=h.off
 all:=fun u r=>by have:=h.all u r;have:=hF.size;omega
theorem gF (us:List (Nat × Nat))(mem:List (List Int))(h:us.length<=mem.length):(usV us mem).length=us.length:=by unfold usV;simp;omega
theorem kg:∀(us:List (Nat × Nat)) (mem:List (List Int)) (u:Nat × Nat) (l:List Int),mem[us.length]?=some l->usV (us++[u]) mem=usV us mem++[Value.slice (some ⟨u.1,0,none⟩) l.length u.2]
 | [],[],u,l,h=>by simp at h
 | [],m::ms,u,l,h=>by simp at h;subst h;simp[usV]
 | v::vs,[],u,l,h=>by simp at h
 | v::vs,m::ms,u,l,h=>by
  have:=kg vs ms u l (by simpa using h)
  simp only[usV,List.cons_append,List.zipWith_cons_cons] at this ⊢;rw[this]
theorem oG {P:Program}{w:World}{ops:Array Oper}{o:Oper}{a:Act}{K:Act->World->Prop}{Q:Exit->Act->World->Prop}{F:Prop}{f:FuncId}{args:Array Value}
  (hg:o.guard=none) (hr:(execOp a.eval o).run P w=.ok (.enter f args) w) (hc:Calls P f args w fun e w'=>∃v,e=.returned v/\K (a.put o.dst v) w') :
  if Region.wanted o (yielded ops a.tmps)=true then Oper.wp P o a w K Q else F:=by
 have j:Region.wanted o (yielded ops a.tmps)=true:=by simp[Region.wanted,hg]
 rw[wa j];unfold Oper.wp;rw[hr];exact hc.mono fun e w' ⟨v,d,g⟩=>by subst d;exact g
def tO (w:World)(m b cap:Nat)(l:List Int):Prop:=m<=b/\l.length<=cap/\cap<=9223372036854775807/\∃cur:Array Value,w.heap[b]?=some (.cells cur 3 (0,0))/\∀(i:Nat) (z:Int),l[i]?=some z->cur[i]?=some (.int .i64 z)
section
variable {P:Program}{w:World}
theorem gU (t ty e:TypeId)(i:TypeInfo)(z:Value)(ht:P.underlying t=some (.slice e))(hi:P.info? e=some i)(hz:i.zero=some z)(hsize:i.size=1)(hzs:z.cells.size=1)
  (g:Nat) (u:Value) (ys:List Value) (hu:Src w u 1 ys.length ys) (hn:ys.length<=17592186044416) (hb:ys.length*i.bytes<=140737488355328) (h1:∀y∈ys,y.oneCell'=true) :
  ∃A c w',(Builtin.append_ #[t,t] ty #[.slice (some ⟨g,0,none⟩) 0 0,u]).run P w=.ok (.slice A ys.length c) w'/\Gr w w'/\ys.length<=c/\(0<ys.length->Own1 w.heap.size e w' (.slice A ys.length c) ys):=by
 obtain⟨A,c,rfl,hl,q⟩:=hu;rcases Nat.eq_zero_or_pos ys.length with m|m
 ·refine⟨some ⟨g,0,none⟩,0,w,?_,wL w,by omega,by omega⟩;rw[m]
  cases A with
  | none=>simp[Builtin.append_,run_underlying ht,sizeOf,typeInfo,hi,Builtin.lenOf,Builtin.firstCells,storeCells]
  | some l=>simp[Builtin.append_,run_underlying ht,sizeOf,typeInfo,hi,Builtin.lenOf,Builtin.firstCells,loadCells,loadCellsFrom,storeCells]
 ·obtain⟨l,rfl,d⟩:=q m;obtain⟨F,w',p,C,D,-,E⟩:=run_append_own_at (P:=P) w w.heap.size t ty e i z 1 i.bytes ht hi hz hsize rfl (by rw[hzs]) (by omega) (.slice none 0 0) 0 [] (World.ownsRow_nil _ _ _ _) l ys.length c ys hl d h1 (by simp only[maxLen];omega) (by rw[Nat.zero_add];exact hb) (vV _);have r:=run_append_grow (P:=P) w t ty e i z ht hi hz ⟨g,0,none⟩ 0 0 [] (by simp) (by simp) l ys.length c ys (by rw[hsize];exact hl) d (by omega) (by omega) (by rw[Nat.zero_add,nextslicecap_zero m];omega);have j:=run_append_nil (P:=P) w t ty e i z ht hi hz l ys.length c ys (by rw[hsize];exact hl) d (by omega) (by omega) (by omega);rw[j] at p;injection p with hv B;subst hv;subst B;refine⟨_,_,_,?_,?_,?_,fun _=>by unfold Own1;simpa using C⟩
  ·rw[r];simp
  ·exact(Gr.drew (wL w)).alloc _
  ·have:=grownCap_ge w ys.length 0 e;omega
theorem Own1.irow {B:Nat}{A:Option Addr}{c:Nat}{l:List Int}(h:Own1 B 3 w (.slice A l.length c) (l.map (Value.int .i64)))(hp:0<l.length):∃b,A=some ⟨b,0,none⟩/\tO w B b c l:=by
 obtain⟨-,H⟩:=h;rcases H with ⟨e,-⟩|⟨g,t,d,e,F,E,j,C,I,D⟩
 ·injection e with _ e _;omega
 ·injection e with u _ y;subst y;rw[vS] at j;refine⟨g,u,F,j,by unfold maxLen at C;omega,d,E,fun q z p=>?_⟩;have G:=(vy.1 p).1;have m:=congrArg (fun r=>r[q]?) D;simp only[vL,vS,vH,p,Option.map_some,Nat.mul_one,wa G] at m;simpa using m
theorem qP {ops:Array Oper}{o:Oper}{a:Act}{K:Act->World->Prop}{Q:Exit->Act->World->Prop}{F:Prop}{t:TypeId}{i:TypeInfo}{z:Value}{C:Nat}
  (ht:P.underlying t=some (.slice 3)) (hi:P.info? 3=some i) (hz:i.zero=some z) (hsize:i.size=1) (hby:i.bytes=8) (hzs:z.cells.size=1)
  (hgd:o.guard=none) (s x:Operand) (ho:o.op=.call { callee:=.builtin .append,args:=#[s,x],argTypes:=#[t,t] }) {g:Nat} (hs:a.eval s=.slice (some ⟨g,0,none⟩) 0 0) {u:Value} {ys:List Int} (hu:IntsAt C w u ys) (hx:a.eval x=u) (hp:0<ys.length)
  (h:∀b cap w',tO w' w.heap.size b cap ys->Gr w w'->K (a.put o.dst (.slice (some ⟨b,0,none⟩) ys.length cap)) w'):if Region.wanted o (yielded ops a.tmps)=true then Oper.wp P o a w K Q else F:=by
 have p:Region.wanted o (yielded ops a.tmps)=true:=by simp[Region.wanted,hgd]
 rw[wa p];have hl:(ys.map (Value.int .i64)).length=ys.length:=vS _;have m:ys.length<=17592186044416:=by obtain⟨_,_,_,_,q,_⟩:=hu;exact q
 obtain⟨A,c,w',d,r,y,j⟩:=gU (P:=P) (w:=w) t o.type 3 i z ht hi hz hsize hzs g u (ys.map (Value.int .i64)) (by rw[hl];exact Src.ints hu) (by rw[hl];exact m) (by rw[hl,hby];omega) (iJ _ _);rw[hl] at d y j;unfold Oper.wp execOp;simp only[ho,resolve,invoke,builtin,Sem.run_bind,Sem.run_pure,Result.andThen_ok,List.map_toArray,List.map_cons,List.map_nil,hs,hx,d];obtain⟨b,rfl,l⟩:=(j hp).irow hp;exact h b c w' l r
end
def rh (vp:Value)(ret:Int)(vs vb vm pk va vh:Value):Array Value:=#[vp,.int .i64 ret,vs,vb,vm,pk,.int .i64 0,.bool false,.int .i64 0,.int .u32 0,ef,ef,ef,.int .i64 0,va,vh]
structure WS (N:Nat)(W w:World)(row:Array Value):Prop where
 fr:FrS (·=N) W w
 st:w.heap[N]?=some (.cells row 122 (0,0))
section
variable {N:Nat}{W w w' w2:World}{row row':Array Value}{v v':Value}{e:TypeId}{xs ys:List Value}{tmp:Obj}{S:Nat->Prop}
theorem WS.keep (h:WS N W w row)(hF:FrS S w w')(hS:∀k,S k->W.heap.size<=k)(hN:N<W.heap.size):WS N W w' row where
 fr:=by
  refine(FrS.weaken (S:=fun k=>k=N\/W.heap.size<=k) ((h.fr.mono fun k hk=>.inl hk).trans (hF.mono fun k hk=>.inr (hS k hk))) fun k hk q=>q.elim (fun e=>e) (fun e=>by omega))
 st:=(hF.block _ (cY h.st) (fun q=>by have:=hS _ q;omega)).trans h.st
theorem WS.grow (h:WS N W w row)(g:Gr w w')(hN:N<W.heap.size):WS N W w' row:=h.keep (FrS.of_gr (S:=fun _=>False) g) (fun _ q=>q.elim) hN
theorem WS.put (h:WS N W w row)(i:Nat)(v:Value)(hr:row.setIfInBounds i v=row'):WS N W (w.setCell ⟨N,i,none⟩ v) row':=⟨h.fr.setCell (p:=⟨N,i,none⟩) rfl v,by have:=cX (i:=i) v h.st;rw[hr] at this;exact this⟩
end
def pR (c:Cfg)(r:Rn.Out × Rn.St × List Int)(wv bv:Value):Array Value :=
 #[.int .i64 r.1.kind,.bool r.1.ret.p,.int .i64 r.1.ret.s,.int .u32 r.1.ret.n,pV c r.1,wv,bv,.int .i64 r.2.1.steps,.slice (some ⟨c.Bv,0,none⟩) r.2.1.vals.length r.2.1.vals.length,.slice (some ⟨c.Bh,0,none⟩) r.2.1.vals.length r.2.1.vals.length]
def ui (f:Fn)(i:Rn.Inp)(picks:List Int)(B:Nat)(e:Ending)(w':World):Prop :=
 ∃(c:Cfg) (wv bv:Value),e=.returned (.agg (pR c (Rn.run f (Rn.given picks) i) wv bv))/\c.f=f /\
  DS c picks w' (Rn.run f (Rn.given picks) i).2.1 (Rn.run f (Rn.given picks) i).2.2 (Rn.run f (Rn.given picks) i).1 (pV c (Rn.run f (Rn.given picks) i).1) wv bv/\(∀k,DO c wv bv k->B<=k)/\B<=c.Bm/\c.Bm<w'.heap.size
section
variable {N k n b cap c8 c2:Nat}{W w wr w1 w2:World}{vp vs vb pk va vh:Value}{ret:Int}{us:List (Nat × Nat)}{mem:List (List Int)}{l:List Int}{A8 A2:Option Addr}{tmp:Obj}
theorem tM (hW:W.heap.size=N+4)(h:WS (N+3) W wr (rh vp ret vs vb (.slice A8 k c8) pk ef ef))(hmu:MU (N+1) wr us mem ef)(hrow:Own1 (N+4) 22 wr (.slice A8 k c8) (usV us mem))(hus:us.length=k)(hl:mem[k]?=some l)
  (g1:Gr wr w1) (hb:tO w1 wr.heap.size b cap l) (hg:(w1.alloc tmp).grownBy w2 (Value.slice A8 k c8).ownBlock) (ho2:Own1 (N+4) 22 w2 (.slice A2 (k+1) c2) (usV us mem++[.slice (some ⟨b,0,none⟩) l.length cap])) :
  (w2.cell? ⟨N+3,4,none⟩=some (.slice A8 k c8)/\w2.frozen? ⟨N+3,4,none⟩=false)/\WS (N+3) W (w2.setCell ⟨N+3,4,none⟩ (.slice A2 (k+1) c2)) (rh vp ret vs vb (.slice A2 (k+1) c2) pk ef ef) /\
   MU (N+1) (w2.setCell ⟨N+3,4,none⟩ (.slice A2 (k+1) c2)) (us++[(b,cap)]) mem ef/\Own1 (N+4) 22 (w2.setCell ⟨N+3,4,none⟩ (.slice A2 (k+1) c2)) (.slice A2 (k+1) c2) (usV (us++[(b,cap)]) mem):=by
 have hN:N+3<W.heap.size:=by omega
 have C:=hrow.gr g1;have B:FrS (fun q=>(Value.slice A8 k c8).ownBlock=some q) w1 w2:=((FrS.refl _ w1).alloc tmp).grown hg (fun q d=>.inl d);have m:=(h.grow g1 hN).keep B (fun q d=>by have:=(dg C d).1;omega) hN;have H:FrS (fun q=>(Value.slice A8 k c8).ownBlock=some q\/q=N+3) w1 (w2.setCell ⟨N+3,4,none⟩ (.slice A2 (k+1) c2)):=(B.mono fun q d=>.inl d).setCell (p:=⟨N+3,4,none⟩) (.inr rfl) _
 have A:∀{q:Nat} {g:Array Value} {t:TypeId},w1.heap[q]?=some (.cells g t (0,0))->t≠22->N+4<=q->(w2.setCell ⟨N+3,4,none⟩ (.slice A2 (k+1) c2)).heap[q]?=some (.cells g t (0,0)):=fun d ht hN3=>(H.block _ (cY d) (by
   rintro (e|e)
   · obtain⟨-,-,r,F⟩:=dg C e
     exact hE d F ht rfl
   · omega)).trans d
 obtain⟨Y,M,O,g,G,P⟩:=hb;have I:=g1.size;have J:w1.heap.size<=(w2.setCell ⟨N+3,4,none⟩ (.slice A2 (k+1) c2)).heap.size:=H.size;have Q:W.heap.size<=wr.heap.size:=h.fr.size;refine⟨⟨vX _ _ 4 _ _ _ m.st,vY _ _ 4 _ _ m.st⟩,m.put 4 _ rfl,⟨?_,?_,fun u _ e=>by (cases e),?_⟩,?_⟩
 ·intro j q D S y m;rcases wh j us.length with E|E
  ·rw[vJ E] at y;obtain⟨K,T,U,r,L,X⟩:=hmu.row j q D S y m;exact⟨K,T,U,r,A ((g1.heap _ (cY L)).trans L) (by decide) K,X⟩
  ·rw[vK E] at y
   obtain rfl:j=us.length:=by
    rcases wh us.length j with q|q
    ·rw[vP (by simp;omega)] at y;cases y
    ·omega
   rw[Nat.sub_self] at y;simp at y;obtain⟨rfl,rfl⟩:=y;rw[hus,hl] at m;injection m with m;subst m;exact⟨by omega,M,O,g,A G (by decide) (by omega),P⟩
 ·rw[List.map_append,List.nodup_append];refine⟨hmu.apart,by simp,fun a R q d=>?_⟩;simp at d;subst d;obtain⟨u,z,rfl⟩:=List.mem_map.1 R;have:=hmu.all u z;omega
 ·intro u z;rcases wl.1 z with z|z
  ·have:=hmu.all u z;omega
  ·simp at z;subst z;have:=cY G;show b<_;omega
 ·rw[kg us mem (b,cap) l (by rw[hus];exact hl)];exact dr ho2 fun q d=>wk _ _ _ _ (by have:=(dg ho2 d).1;show q≠N+3;omega)
structure WM (N n:Nat)(W w:World)(vp:Value)(ret:Int)(vs vb vm pk:Value)(us:List (Nat × Nat))(mem:List (List Int))(Bv Bh:Nat)(vals:List Rn.V)(had:List Bool):Prop where
 ws:WS (N+3) W w (rh vp ret vs vb vm pk (.slice (some ⟨Bv,0,none⟩) n n) (.slice (some ⟨Bh,0,none⟩) n n))
 mu:MU (N+1) w us mem ef
 row:Own1 (N+4) 22 w vm (usV us mem)
 hv:w.heap[Bv]?=some (.cells (dy vals).toArray 37 (0,0))
 hh:w.heap[Bh]?=some (.cells (had.map Value.bool).toArray 4 (0,0))
 vN:N+4<=Bv
 hN:N+4<=Bh
theorem WM.grow (hW:W.heap.size=N+4){vm:Value}{Bv Bh:Nat}{vals:List Rn.V}{had:List Bool}(h:WM N n W wr vp ret vs vb vm pk us mem Bv Bh vals had)(hle:us.length<=mem.length)(g:Gr wr w1):WM N n W w1 vp ret vs vb vm pk us mem Bv Bh vals had where
 ws:=h.ws.grow g (by omega)
 mu:=h.mu.keep hle (FrS.of_gr (S:=fun _=>False) g) (fun _ _ q=>q)
 row:=h.row.gr g
 hv:=(g.heap _ (cY h.hv)).trans h.hv
 hh:=(g.heap _ (cY h.hh)).trans h.hh
 vN:=h.vN
 hN:=h.hN
theorem tL (hW:W.heap.size=N+4){vm:Value}(h:WS (N+3) W wr (rh vp ret vs vb vm pk ef ef))(hmu:MU (N+1) wr us mem ef)(hrow:Own1 (N+4) 22 wr vm (usV us mem))(hle:us.length<=mem.length)(vals:List Rn.V)(had:List Bool) :
  WM N n W ((((wr.setCell ⟨N+3,14,none⟩ (.slice (some ⟨wr.heap.size,0,none⟩) n n)).setCell ⟨N+3,15,none⟩ (.slice (some ⟨wr.heap.size+1,0,none⟩) n n)).alloc (.cells (dy vals).toArray 37)).alloc (.cells (had.map Value.bool).toArray 4)) vp ret vs vb vm pk us mem wr.heap.size (wr.heap.size+1) vals had:=by
 have hN:N+3<W.heap.size:=by omega
 have E:W.heap.size<=wr.heap.size:=h.fr.size;obtain⟨r,d⟩:=xJ ((wr.setCell ⟨N+3,14,none⟩ (.slice (some ⟨wr.heap.size,0,none⟩) n n)).setCell ⟨N+3,15,none⟩ (.slice (some ⟨wr.heap.size+1,0,none⟩) n n));have D:FrS (·=N+3) wr r:=by rw[<-d];exact((FrS.refl (·=N+3) wr).setCell (p:=⟨N+3,14,none⟩) rfl _).setCell (p:=⟨N+3,15,none⟩) rfl _
 have C:r.heap.size=wr.heap.size:=by rw[<-d];simp
 have I:WS (N+3) W r (rh vp ret vs vb vm pk (.slice (some ⟨wr.heap.size,0,none⟩) n n) (.slice (some ⟨wr.heap.size+1,0,none⟩) n n)):=by rw[<-d];exact(h.put 14 _ rfl).put 15 _ rfl
 rw[d];obtain⟨t,g⟩:=xJ (r.alloc (.cells (dy vals).toArray 37));have A:Gr r t:=by rw[<-g];exact(wL _).alloc _
 have H:t.heap.size=wr.heap.size+1:=by rw[<-g];simp[C]
 have v3:t.heap[wr.heap.size]?=some (.cells (dy vals).toArray 37 (0,0)):=by rw[<-g,<-C];exact heap_alloc_new _ _
 rw[g];obtain⟨y,m⟩:=xJ (t.alloc (.cells (had.map Value.bool).toArray 4));have z:Gr t y:=by rw[<-m];exact(wL _).alloc _
 have v4:y.heap[wr.heap.size+1]?=some (.cells (had.map Value.bool).toArray 4 (0,0)):=by rw[<-m,<-H];exact heap_alloc_new _ _
 rw[m];have F:FrS (·=N+3) wr y:=D.trans (FrS.of_gr (A.trans z));refine⟨I.grow (A.trans z) hN,hmu.keep hle F fun u G e=>?_,dr hrow fun q hq=>F.block q (dg hrow hq).2.1 (by have:=(dg hrow hq).1;omega),(z.heap _ (cY v3)).trans v3,v4,by omega,by omega⟩;obtain⟨j,B⟩:=List.getElem?_of_mem G;obtain⟨l,hl⟩:∃l,mem[j]?=some l:=⟨_,vu (by have:=(vy.1 B).1;omega)⟩;have:=(hmu.row j u.1 u.2 l B hl).1;omega
theorem sI (hW:W.heap.size=N+4){vm:Value}{Bv Bh:Nat}{vals:List Rn.V}{had:List Bool}(h:WM N n W wr vp ret vs vb vm pk us mem Bv Bh vals had)(hle:us.length<=mem.length)(x:Int) :
  WM N n W ((((wr.setCell ⟨Bv,k*3,none⟩ (.bool false)).setCell ⟨Bv,k*3+1,none⟩ (.int .i64 0)).setCell ⟨Bv,k*3+2,none⟩ (.int .u32 x)).setCell ⟨Bh,k,none⟩ (.bool true)) vp ret vs vb vm pk us mem Bv Bh (vals.set k (Rn.word x)) (had.set k true):=by
 have d:Bv≠Bh:=hE h.hv h.hh (by decide);have A:=h.vN;have B:=h.hN
 have r:FrS (fun q=>q=Bv\/q=Bh) wr ((((wr.setCell ⟨Bv,k*3,none⟩ (.bool false)).setCell ⟨Bv,k*3+1,none⟩ (.int .i64 0)).setCell ⟨Bv,k*3+2,none⟩ (.int .u32 x)).setCell ⟨Bh,k,none⟩ (.bool true)) :=
  ((((FrS.refl (fun q=>q=Bv\/q=Bh) wr).setCell (p:=⟨Bv,k*3,none⟩) (.inl rfl) _).setCell (p:=⟨Bv,k*3+1,none⟩) (.inl rfl) _).setCell (p:=⟨Bv,k*3+2,none⟩) (.inl rfl) _).setCell (p:=⟨Bh,k,none⟩) (.inr rfl) _
 refine⟨h.ws.keep r (fun q t=>by omega) (by omega),h.mu.keep hle r fun u hu e=>?_,dr h.row fun q t=>r.block q (dg h.row t).2.1 ?_,?_,?_,A,B⟩
 ·obtain⟨j,y⟩:=List.getElem?_of_mem hu;obtain⟨l,hl⟩:∃l,mem[j]?=some l:=⟨_,vu (by have:=(vy.1 y).1;omega)⟩;obtain⟨-,-,-,m,g,-⟩:=h.mu.row j u.1 u.2 l y hl;rcases e with e|e
  ·rw[e] at g;exact hE g h.hv (by decide) rfl
  ·rw[e] at g;exact hE g h.hh (by decide) rfl
 ·obtain⟨-,-,m,z⟩:=dg h.row t;rintro (e|e)
  ·subst e;exact hE z h.hv (by decide) rfl
  ·subst e;exact hE z h.hh (by decide) rfl
 ·rw[<-gp];exact(wk _ _ _ _ d).trans (cX (i:=k*3+2) (.int .u32 x) (cX (i:=k*3+1) (.int .i64 0) (cX (i:=k*3) (.bool false) h.hv)))
 ·rw[<-jY];exact cX (i:=k) (.bool true) ((wk _ _ _ _ d.symm).trans ((wk _ _ _ _ d.symm).trans ((wk _ _ _ _ d.symm).trans h.hh)))
end
theorem un {N n c8 Bv Bh:Nat}{W wr:World}{vp vs vb pk:Value}{us:List (Nat × Nat)}{A8:Option Addr}{f:Fn}{i:Rn.Inp}{picks:List Int}(hW:W.heap.size=N+4)(h:WM N n W wr vp f.ret vs vb (.slice A8 us.length c8) pk us i.mem Bv Bh (Rn.start f i).vals (Rn.start f i).had)
  (hul:us.length=i.mem.length) (hn:(Rn.start f i).vals.length=n) (hsl:i.mem.map (fun r=>(r.length:Int))=f.slots) (hfn:FnAt N wr (.agg #[vp,.int .i64 f.ret,vs,vb]) f) (hpk:U32At N wr pk picks) :
  ∃c:Cfg,c.n₀=N/\c.f=f/\c.Bs=N+3/\DS c picks wr (Rn.start f i) [] ⟨0,Rn.zero,[]⟩ ef ef ef/\(∀k,DO c ef ef k->N+3<=k)/\N+3<=c.Bm/\c.Bm<wr.heap.size:=by
 have p:=h.vN;have t:=h.hN;have J:=cY h.ws.st
 have H:i.mem.length<=c8/\c8<=9223372036854775807:=by
  obtain⟨-,I⟩:=id h.row;rcases I with ⟨e,M⟩|⟨g,D,d,e,-,-,p,t,-⟩
  ·injection e with _ E O;omega
  ·injection e with _ E O;unfold maxLen at t;rw[gF _ _ (by omega)] at p;omega
 obtain⟨Bm,y,A,B⟩:∃Bm:Nat,N+3<=Bm/\Bm<wr.heap.size/\(0<us.length->A8=some ⟨Bm,0,none⟩/\∃d:Array Value,wr.heap[Bm]?=some (.cells d 22 (0,0))/\∀j v,(usV us i.mem)[j]?=some v->d[j]?=some v):=by
  by_cases M:0<us.length
  ·obtain⟨-,I⟩:=id h.row;rcases I with ⟨e,p⟩|⟨g,D,d,e,p,t,-,-,-,P⟩
   ·rw[gF _ _ (by omega)] at p;omega
   ·injection e with E _ _;refine⟨g,by omega,cY t,fun _=>⟨E,d,t,fun j v u=>?_⟩⟩;rw[<-P,vL] at u;split at u
    ·simpa using u
    ·cases u
  ·exact⟨N+3,vV _,J,fun q=>absurd q M⟩
 have C:∀(j b m:Nat),us[j]?=some (b,m)->N+4<=b:=fun j b m u=>by
  obtain⟨l,hl⟩:∃l,i.mem[j]?=some l:=⟨_,vu (by have:=(vy.1 u).1;omega)⟩;have:=(h.mu.row j b m l u hl).1;omega
 refine⟨{ n₀:=N,f:=f,vp:=vp,vs:=vs,vb:=vb,ch:=pk,Bf:=0,cf:=0,Am:=A8,Bm:=Bm,cm:=c8,us:=us,Bs:=N+3,Bv:=Bv,Bh:=Bh },rfl,rfl,rfl,?_,?_,y,A⟩
 ·exact {
     st:=by rw[hn];exact h.ws.st
     vals:=h.hv
     had:=h.hh
     hlen:=by unfold Rn.start;simp
     mem:=⟨hul.symm,fun j b m l p t=>(h.mu.row j b m l p t).2⟩
     slots:=⟨by show us.length<=c8;omega,H.2,fun G=>by
       obtain⟨S,d,T,U⟩:=B G
       refine⟨S,d,T,fun j b m z p t=>U j _ ?_⟩
       have R:i.mem[j]?.map (fun r=>(r.length:Int))=some z:=by rw[<-vH,hsl];exact t
       obtain⟨l,hl,K⟩:=Option.map_eq_some_iff.1 R
       unfold usV
       rw[List.getElem?_zipWith,p,hl,<-K]
       rfl⟩
     fn:=hfn
     picks:=hpk
     wid:=Own1.nil _ _ _
     blk:=Own1.nil _ _ _
     old:=⟨by show N<=N+3;omega,by show N<=Bv;omega,by show N<=Bh;omega,by show N<=Bm;omega,fun j b m u=>by have:=C j b m u;show N<=b;omega⟩
     apart:=h.mu.apart
     farW:=fun k F=>by cases F
     farB:=fun k F=>by cases F }
 ·intro q Q;rcases Q with (e|e|e|⟨j,m,e⟩)|e|e
  ·have L:q=N+3:=e;omega
  ·have L:q=Bv:=e;omega
  ·have L:q=Bh:=e;omega
  ·have:=C j q m e;omega
  ·cases e
  ·cases e
end
end Go.Proofs.YthfhamagopbgcaaGreat
