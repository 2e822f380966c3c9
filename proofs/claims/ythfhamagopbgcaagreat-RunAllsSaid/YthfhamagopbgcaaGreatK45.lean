/- Parts. -/
import Derived.Test.YthfhamagopbgcaaGreatK44
set_option linter.unusedSimpArgs false
set_option linter.unusedVariables false
set_option maxRecDepth 100000
set_option maxHeartbeats 16000000
open Go.Proofs.Tryz
namespace Go.Proofs.YthfhamagopbgcaaGreat
section
open Go.RowKit
def tO (w:World)(m b cap:Nat)(l:List Int):Prop:=m<=b/\l.length<=cap/\cap<=9223372036854775807/\∃cur:Array Value,w.heap[b]?=some (.cells cur 3 (0,0))/\∀(i:Nat)(z:Int),l[i]?=some z->cur[i]?=some (.int .i64 z)
section
variable {P:Program}{w:World}
theorem gU (t ty e:TypeId)(i:TypeInfo)(z:Value)(ht:P.underlying t=some (.slice e))(hi:P.info? e=some i)(hz:i.zero=some z)(hsize:i.size=1)(hzs:z.cells.size=1)
  (g:Nat) (u:Value) (ys:List Value) (hu:Src w u 1 ys.length ys) (hn:ys.length<=17592186044416) (hb:ys.length*i.bytes<=140737488355328) (h1:∀y∈ys,y.oneCell'=true) :
  ∃A c w',(Builtin.append_ #[t,t] ty #[.slice (some ⟨g,0,none⟩) 0 0,u]).run P w=.ok (.slice A ys.length c) w'/\Gr w w'/\ys.length<=c/\(0<ys.length->Own1 w.heap.size e w' (.slice A ys.length c) ys):=by
 obtain⟨A,c,rfl,hl,q⟩:=hu;rcases Nat.eq_zero_or_pos ys.length with m|m
 ·refine⟨some ⟨g,0,none⟩,0,w,?_,wL w,by omega,by omega⟩;rw[m]
  cases A with
  | none=>simp[Builtin.append_,run_underlying ht,sizeOf,typeInfo,hi,Builtin.lenOf,Builtin.firstCells,storeCells]
  | some l=>simp[Builtin.append_,run_underlying ht,sizeOf,typeInfo,hi,Builtin.lenOf,Builtin.firstCells,loadCells,loadCellsFrom,storeCells]
 ·obtain⟨l,rfl,d⟩:=q m;obtain⟨F,w',p,C,D,-,E⟩:=run_append_own_at (P:=P) w w.heap.size t ty e i z 1 i.bytes ht hi hz hsize rfl (by rw[hzs]) (by omega) (.slice none 0 0) 0 [] (World.ownsRow_nil _ _ _ _) l ys.length c ys hl d h1 (by simp only[maxLen];omega) (by rw[Nat.zero_add];exact hb) (vV _);have r:=run_append_grow (P:=P) w t ty e i z ht hi hz ⟨g,0,none⟩ 0 0 [] (by simp) (by simp) l ys.length c ys (by rw[hsize];exact hl) d (by omega) (by omega) (by rw[Nat.zero_add,nextslicecap_zero m];omega);have j:=run_append_nil (P:=P) w t ty e i z ht hi hz l ys.length c ys (by rw[hsize];exact hl) d (by omega) (by omega) (by omega);rw[j]at p;injection p with hv B;subst hv;subst B;refine⟨_,_,_,?_,?_,?_,fun _=>by unfold Own1;simpa using C⟩
  ·rw[r];simp
  ·exact(Gr.drew (wL w)).alloc _
  ·have:=grownCap_ge w ys.length 0 e;omega
theorem Own1.irow {B:Nat}{A:Option Addr}{c:Nat}{l:List Int}(h:Own1 B 3 w (.slice A l.length c) (l.map (Value.int .i64)))(hp:0<l.length):∃b,A=some ⟨b,0,none⟩/\tO w B b c l:=by
 obtain⟨-,H⟩:=h;rcases H with ⟨e,-⟩|⟨g,t,d,e,F,E,j,C,I,D⟩
 ·injection e with _ e _;omega
 ·injection e with u _ y;subst y;rw[vS]at j;refine⟨g,u,F,j,by unfold maxLen at C;omega,d,E,fun q z p=>?_⟩;have G:=(yq.1 p).1;have m:=congrArg (fun r=>r[q]?) D;simp only[vL,vS,vH,p,Option.map_some,Nat.mul_one,wa G]at m;simpa using m
theorem qP {ops:Array Oper}{o:Oper}{a:Act}{K:Act->World->Prop}{Q:Exit->Act->World->Prop}{F:Prop}{t:TypeId}{i:TypeInfo}{z:Value}{C:Nat}
  (ht:P.underlying t=some (.slice 3)) (hi:P.info? 3=some i) (hz:i.zero=some z) (hsize:i.size=1) (hby:i.bytes=8) (hzs:z.cells.size=1)
  (hgd:o.guard=none) (s x:Operand) (ho:o.op=.call {callee:=.builtin .append,args:=#[s,x],argTypes:=#[t,t]}) {g:Nat} (hs:a.eval s=.slice (some ⟨g,0,none⟩) 0 0) {u:Value} {ys:List Int} (hu:IntsAt C w u ys) (hx:a.eval x=u) (hp:0<ys.length)
  (h:∀b cap w',tO w' w.heap.size b cap ys->Gr w w'->K (a.put o.dst (.slice (some ⟨b,0,none⟩) ys.length cap)) w'):if Region.wanted o (yielded ops a.tmps)=true then Oper.wp P o a w K Q else F:=by
 have p:Region.wanted o (yielded ops a.tmps)=true:=by simp[Region.wanted,hgd]
 rw[wa p];have hl:(ys.map (Value.int .i64)).length=ys.length:=vS _;have m:ys.length<=17592186044416:=by obtain⟨_,_,_,_,q,_⟩:=hu;exact q
 obtain⟨A,c,w',d,r,y,j⟩:=gU (P:=P) (w:=w) t o.type 3 i z ht hi hz hsize hzs g u (ys.map (Value.int .i64)) (by rw[hl];exact Src.ints hu) (by rw[hl];exact m) (by rw[hl,hby];omega) (iJ _ _);rw[hl]at d y j;unfold Oper.wp execOp;simp only[ho,resolve,invoke,builtin,Sem.run_bind,Sem.run_pure,Result.andThen_ok,List.map_toArray,List.map_cons,List.map_nil,hs,hx,d];obtain⟨b,rfl,l⟩:=(j hp).irow hp;exact h b c w' l r
end
def rh (vp:Value)(ret:Int)(vs vb vm pk va vh:Value):Array Value:=#[vp,.int .i64 ret,vs,vb,vm,pk,.int .i64 0,.bool false,.int .i64 0,.int .u32 0,ef,ef,ef,.int .i64 0,va,vh]
structure WS (N:Nat)(W w:World)(row:Array Value):Prop where
 fr:FrS (·=N) W w
 st:w.heap[N]?=some (.cells row 122 (0,0))
section
variable {N:Nat}{W w w' w2:World}{row row':Array Value}{v v':Value}{e:TypeId}{xs ys:List Value}{tmp:Obj}{S:Nat->Prop}
theorem WS.keep (h:WS N W w row)(hF:FrS S w w')(hS:∀k,S k->W.heap.size<=k)(hN:N<W.heap.size):WS N W w' row where
 fr:=by refine(FrS.weaken (S:=fun k=>k=N\/W.heap.size<=k) ((h.fr.mono fun k hk=>.inl hk).trans (hF.mono fun k hk=>.inr (hS k hk))) fun k hk q=>q.elim (fun e=>e) (fun e=>by omega))
 st:=(hF.block _ (cY h.st) (fun q=>by have:=hS _ q;omega)).trans h.st
theorem WS.grow (h:WS N W w row)(g:Gr w w')(hN:N<W.heap.size):WS N W w' row:=h.keep (FrS.of_gr (S:=fun _=>False) g) (fun _ q=>q.elim) hN
theorem WS.put (h:WS N W w row)(i:Nat)(v:Value)(hr:row.setIfInBounds i v=row'):WS N W (w.setCell ⟨N,i,none⟩ v) row':=⟨h.fr.setCell (p:=⟨N,i,none⟩) rfl v,by have:=cX (i:=i) v h.st;rw[hr]at this;exact this⟩
end
def pR (c:Cfg)(r:Rn.Out × Rn.St × List Int)(wv bv:Value):Array Value :=
 #[.int .i64 r.1.kind,.bool r.1.ret.p,.int .i64 r.1.ret.s,.int .u32 r.1.ret.n,pV c r.1,wv,bv,.int .i64 r.2.1.steps,.slice (some ⟨c.Bv,0,none⟩) r.2.1.vals.length r.2.1.vals.length,.slice (some ⟨c.Bh,0,none⟩) r.2.1.vals.length r.2.1.vals.length]
def ui (f:Fn)(i:Rn.Inp)(picks:List Int)(B:Nat)(e:Ending)(w':World):Prop :=
 ∃(c:Cfg)(wv bv:Value),e=.returned (.agg (pR c (Rn.run f (Rn.given picks) i) wv bv))/\c.f=f /\
  DS c picks w' (Rn.run f (Rn.given picks) i).2.1 (Rn.run f (Rn.given picks) i).2.2 (Rn.run f (Rn.given picks) i).1 (pV c (Rn.run f (Rn.given picks) i).1) wv bv/\(∀k,DO c wv bv k->B<=k)/\B<=c.Bm/\c.Bm<w'.heap.size
section
variable {N k n b cap c8 c2:Nat}{W w wr w1 w2:World}{vp vs vb pk va vh:Value}{ret:Int}{us:List (Nat × Nat)}{mem:List (List Int)}{l:List Int}{A8 A2:Option Addr}{tmp:Obj}
theorem tM (hW:W.heap.size=N+4)(h:WS (N+3) W wr (rh vp ret vs vb (.slice A8 k c8) pk ef ef))(hmu:MU (N+1) wr us mem ef)(hrow:Own1 (N+4) 22 wr (.slice A8 k c8) (usV us mem))(hus:us.length=k)(hl:mem[k]?=some l)
  (g1:Gr wr w1) (hb:tO w1 wr.heap.size b cap l) (hg:(w1.alloc tmp).grownBy w2 (Value.slice A8 k c8).ownBlock) (ho2:Own1 (N+4) 22 w2 (.slice A2 (k+1) c2) (usV us mem++[.slice (some ⟨b,0,none⟩) l.length cap])) :
  (w2.cell? ⟨N+3,4,none⟩=some (.slice A8 k c8)/\w2.frozen? ⟨N+3,4,none⟩=false)/\WS (N+3) W (w2.setCell ⟨N+3,4,none⟩ (.slice A2 (k+1) c2)) (rh vp ret vs vb (.slice A2 (k+1) c2) pk ef ef) /\
   MU (N+1) (w2.setCell ⟨N+3,4,none⟩ (.slice A2 (k+1) c2)) (us++[(b,cap)]) mem ef/\Own1 (N+4) 22 (w2.setCell ⟨N+3,4,none⟩ (.slice A2 (k+1) c2)) (.slice A2 (k+1) c2) (usV (us++[(b,cap)]) mem):=by
 have hN:N+3<W.heap.size:=by omega
 have C:=hrow.gr g1;have B:FrS (fun q=>(Value.slice A8 k c8).ownBlock=some q) w1 w2:=((FrS.refl _ w1).alloc tmp).grown hg (fun q d=>.inl d);have m:=(h.grow g1 hN).keep B (fun q d=>by have:=(dg C d).1;omega) hN;have H:FrS (fun q=>(Value.slice A8 k c8).ownBlock=some q\/q=N+3) w1 (w2.setCell ⟨N+3,4,none⟩ (.slice A2 (k+1) c2)):=(B.mono fun q d=>.inl d).setCell (p:=⟨N+3,4,none⟩) (.inr rfl) _
 have A:∀{q:Nat} {g:Array Value} {t:TypeId},w1.heap[q]?=some (.cells g t (0,0))->t≠22->N+4<=q->(w2.setCell ⟨N+3,4,none⟩ (.slice A2 (k+1) c2)).heap[q]?=some (.cells g t (0,0)):=fun d ht hN3=>(H.block _ (cY d) (by
   rintro (e|e)
   · obtain⟨-,-,r,F⟩:=dg C e
     exact gs d F ht rfl
   · omega)).trans d
 obtain⟨Y,M,O,g,G,P⟩:=hb;have I:=g1.size;have J:w1.heap.size<=(w2.setCell ⟨N+3,4,none⟩ (.slice A2 (k+1) c2)).heap.size:=H.size;have Q:W.heap.size<=wr.heap.size:=h.fr.size;refine⟨⟨vX _ _ 4 _ _ _ m.st,vY _ _ 4 _ _ m.st⟩,m.put 4 _ rfl,⟨?_,?_,fun u _ e=>by (cases e),?_⟩,?_⟩
 ·intro j q D S y m;rcases wh j us.length with E|E
  ·rw[vJ E]at y;obtain⟨K,T,U,r,L,X⟩:=hmu.row j q D S y m;exact⟨K,T,U,r,A ((g1.heap _ (cY L)).trans L) (by decide) K,X⟩
  ·rw[vK E]at y
   obtain rfl:j=us.length:=by
    rcases wh us.length j with q|q
    ·rw[vP (by simp;omega)]at y;cases y
    ·omega
   rw[Nat.sub_self]at y;simp at y;obtain⟨rfl,rfl⟩:=y;rw[hus,hl]at m;injection m with m;subst m;exact⟨by omega,M,O,g,A G (by decide) (by omega),P⟩
 ·rw[List.map_append,List.nodup_append];refine⟨hmu.apart,by simp,fun a R q d=>?_⟩;simp at d;subst d;obtain⟨u,z,rfl⟩:=List.mem_map.1 R;have:=hmu.all u z;omega
 ·intro u z;rcases wl.1 z with z|z
  ·have:=hmu.all u z;omega
  ·simp at z;subst z;have:=cY G;show b<_;omega
 ·rw[kg us mem (b,cap) l (by rw[hus];exact hl)];exact dr ho2 fun q d=>wk _ _ _ _ (by have:=(dg ho2 d).1;show q≠N+3;omega)
structure WM (N n:Nat)(W w:World)(vp:Value)(ret:Int)(vs vb vm pk:Value)(us:List (Nat × Nat))(mem:List (List Int))(Bv Bh:Nat)(vals:List Rn.V)(had:List Bool):Prop where
 ws:WS (N+3) W w (rh vp ret vs vb vm pk (.slice (some ⟨Bv,0,none⟩) n n) (.slice (some ⟨Bh,0,none⟩) n n))
 mu:MU (N+1) w us mem ef
 row:Own1 (N+4) 22 w vm (usV us mem)
 hv:w.heap[Bv]?=some (.cells (dy vals).toArray 37 (0,0))
 hh:w.heap[Bh]?=some (.cells (had.map Value.bool).toArray 4 (0,0))
 vN:N+4<=Bv
 hN:N+4<=Bh
theorem WM.grow (hW:W.heap.size=N+4){vm:Value}{Bv Bh:Nat}{vals:List Rn.V}{had:List Bool}(h:WM N n W wr vp ret vs vb vm pk us mem Bv Bh vals had)(hle:us.length<=mem.length)(g:Gr wr w1):WM N n W w1 vp ret vs vb vm pk us mem Bv Bh vals had where
 ws:=h.ws.grow g (by omega)
 mu:=h.mu.keep hle (FrS.of_gr (S:=fun _=>False) g) (fun _ _ q=>q)
 row:=h.row.gr g
 hv:=(g.heap _ (cY h.hv)).trans h.hv
 hh:=(g.heap _ (cY h.hh)).trans h.hh
 vN:=h.vN
 hN:=h.hN
theorem tL (hW:W.heap.size=N+4){vm:Value}(h:WS (N+3) W wr (rh vp ret vs vb vm pk ef ef))(hmu:MU (N+1) wr us mem ef)(hrow:Own1 (N+4) 22 wr vm (usV us mem))(hle:us.length<=mem.length)(vals:List Rn.V)(had:List Bool) :
  WM N n W ((((wr.setCell ⟨N+3,14,none⟩ (.slice (some ⟨wr.heap.size,0,none⟩) n n)).setCell ⟨N+3,15,none⟩ (.slice (some ⟨wr.heap.size+1,0,none⟩) n n)).alloc (.cells (dy vals).toArray 37)).alloc (.cells (had.map Value.bool).toArray 4)) vp ret vs vb vm pk us mem wr.heap.size (wr.heap.size+1) vals had:=by
 have hN:N+3<W.heap.size:=by omega
 have E:W.heap.size<=wr.heap.size:=h.fr.size;obtain⟨r,d⟩:=xJ ((wr.setCell ⟨N+3,14,none⟩ (.slice (some ⟨wr.heap.size,0,none⟩) n n)).setCell ⟨N+3,15,none⟩ (.slice (some ⟨wr.heap.size+1,0,none⟩) n n));have D:FrS (·=N+3) wr r:=by rw[<-d];exact((FrS.refl (·=N+3) wr).setCell (p:=⟨N+3,14,none⟩) rfl _).setCell (p:=⟨N+3,15,none⟩) rfl _
 have C:r.heap.size=wr.heap.size:=by rw[<-d];simp
 have I:WS (N+3) W r (rh vp ret vs vb vm pk (.slice (some ⟨wr.heap.size,0,none⟩) n n) (.slice (some ⟨wr.heap.size+1,0,none⟩) n n)):=by rw[<-d];exact(h.put 14 _ rfl).put 15 _ rfl
 rw[d];obtain⟨t,g⟩:=xJ (r.alloc (.cells (dy vals).toArray 37));have A:Gr r t:=by rw[<-g];exact(wL _).alloc _
 have H:t.heap.size=wr.heap.size+1:=by rw[<-g];simp[C]
 have v3:t.heap[wr.heap.size]?=some (.cells (dy vals).toArray 37 (0,0)):=by rw[<-g,<-C];exact heap_alloc_new _ _
 rw[g];obtain⟨y,m⟩:=xJ (t.alloc (.cells (had.map Value.bool).toArray 4));have z:Gr t y:=by rw[<-m];exact(wL _).alloc _
 have v4:y.heap[wr.heap.size+1]?=some (.cells (had.map Value.bool).toArray 4 (0,0)):=by rw[<-m,<-H];exact heap_alloc_new _ _
 rw[m];have F:FrS (·=N+3) wr y:=D.trans (FrS.of_gr (A.trans z));refine⟨I.grow (A.trans z) hN,hmu.keep hle F fun u G e=>?_,dr hrow fun q hq=>F.block q (dg hrow hq).2.1 (by have:=(dg hrow hq).1;omega),(z.heap _ (cY v3)).trans v3,v4,by omega,by omega⟩;obtain⟨j,B⟩:=List.getElem?_of_mem G;obtain⟨l,hl⟩:∃l,mem[j]?=some l:=⟨_,vu (by have:=(yq.1 B).1;omega)⟩;have:=(hmu.row j u.1 u.2 l B hl).1;omega
theorem sI (hW:W.heap.size=N+4){vm:Value}{Bv Bh:Nat}{vals:List Rn.V}{had:List Bool}(h:WM N n W wr vp ret vs vb vm pk us mem Bv Bh vals had)(hle:us.length<=mem.length)(x:Int) :
  WM N n W ((((wr.setCell ⟨Bv,k*3,none⟩ (.bool false)).setCell ⟨Bv,k*3+1,none⟩ (.int .i64 0)).setCell ⟨Bv,k*3+2,none⟩ (.int .u32 x)).setCell ⟨Bh,k,none⟩ (.bool true)) vp ret vs vb vm pk us mem Bv Bh (vals.set k (Rn.word x)) (had.set k true):=by
 have d:Bv≠Bh:=gs h.hv h.hh (by decide);have A:=h.vN;have B:=h.hN
 have r:FrS (fun q=>q=Bv\/q=Bh) wr ((((wr.setCell ⟨Bv,k*3,none⟩ (.bool false)).setCell ⟨Bv,k*3+1,none⟩ (.int .i64 0)).setCell ⟨Bv,k*3+2,none⟩ (.int .u32 x)).setCell ⟨Bh,k,none⟩ (.bool true)) :=
  ((((FrS.refl (fun q=>q=Bv\/q=Bh) wr).setCell (p:=⟨Bv,k*3,none⟩) (.inl rfl) _).setCell (p:=⟨Bv,k*3+1,none⟩) (.inl rfl) _).setCell (p:=⟨Bv,k*3+2,none⟩) (.inl rfl) _).setCell (p:=⟨Bh,k,none⟩) (.inr rfl) _
 refine⟨h.ws.keep r (fun q t=>by omega) (by omega),h.mu.keep hle r fun u hu e=>?_,dr h.row fun q t=>r.block q (dg h.row t).2.1 ?_,?_,?_,A,B⟩
 ·obtain⟨j,y⟩:=List.getElem?_of_mem hu;obtain⟨l,hl⟩:∃l,mem[j]?=some l:=⟨_,vu (by have:=(yq.1 y).1;omega)⟩;obtain⟨-,-,-,m,g,-⟩:=h.mu.row j u.1 u.2 l y hl;rcases e with e|e
  ·rw[e]at g;exact gs g h.hv (by decide) rfl
  ·rw[e]at g;exact gs g h.hh (by decide) rfl
 ·obtain⟨-,-,m,z⟩:=dg h.row t;rintro (e|e)
  ·subst e;exact gs z h.hv (by decide) rfl
  ·subst e;exact gs z h.hh (by decide) rfl
 ·rw[<-gp];exact(wk _ _ _ _ d).trans (cX (i:=k*3+2) (.int .u32 x) (cX (i:=k*3+1) (.int .i64 0) (cX (i:=k*3) (.bool false) h.hv)))
 ·rw[<-jY];exact cX (i:=k) (.bool true) ((wk _ _ _ _ d.symm).trans ((wk _ _ _ _ d.symm).trans ((wk _ _ _ _ d.symm).trans h.hh)))
end
theorem un {N n c8 Bv Bh:Nat}{W wr:World}{vp vs vb pk:Value}{us:List (Nat × Nat)}{A8:Option Addr}{f:Fn}{i:Rn.Inp}{picks:List Int}(hW:W.heap.size=N+4)(h:WM N n W wr vp f.ret vs vb (.slice A8 us.length c8) pk us i.mem Bv Bh (Rn.start f i).vals (Rn.start f i).had)
  (hul:us.length=i.mem.length) (hn:(Rn.start f i).vals.length=n) (hsl:i.mem.map (fun r=>(r.length:Int))=f.slots) (hfn:FnAt N wr (.agg #[vp,.int .i64 f.ret,vs,vb]) f) (hpk:U32At N wr pk picks) :
  ∃c:Cfg,c.n₀=N/\c.f=f/\c.Bs=N+3/\DS c picks wr (Rn.start f i) [] ⟨0,Rn.zero,[]⟩ ef ef ef/\(∀k,DO c ef ef k->N+3<=k)/\N+3<=c.Bm/\c.Bm<wr.heap.size:=by
 have p:=h.vN;have t:=h.hN;have J:=cY h.ws.st
 have H:i.mem.length<=c8/\c8<=9223372036854775807:=by
  obtain⟨-,I⟩:=id h.row;rcases I with ⟨e,M⟩|⟨g,D,d,e,-,-,p,t,-⟩
  ·injection e with _ E O;omega
  ·injection e with _ E O;unfold maxLen at t;rw[gF _ _ (by omega)]at p;omega
 obtain⟨Bm,y,A,B⟩:∃Bm:Nat,N+3<=Bm/\Bm<wr.heap.size/\(0<us.length->A8=some ⟨Bm,0,none⟩/\∃d:Array Value,wr.heap[Bm]?=some (.cells d 22 (0,0))/\∀j v,(usV us i.mem)[j]?=some v->d[j]?=some v):=by
  by_cases M:0<us.length
  ·obtain⟨-,I⟩:=id h.row;rcases I with ⟨e,p⟩|⟨g,D,d,e,p,t,-,-,-,P⟩
   ·rw[gF _ _ (by omega)]at p;omega
   ·injection e with E _ _;refine⟨g,by omega,cY t,fun _=>⟨E,d,t,fun j v u=>?_⟩⟩;rw[<-P,vL]at u;split at u
    ·simpa using u
    ·cases u
  ·exact⟨N+3,vV _,J,fun q=>absurd q M⟩
 have C:∀(j b m:Nat),us[j]?=some (b,m)->N+4<=b:=fun j b m u=>by obtain⟨l,hl⟩:∃l,i.mem[j]?=some l:=⟨_,vu (by have:=(yq.1 u).1;omega)⟩;have:=(h.mu.row j b m l u hl).1;omega
 refine⟨{n₀:=N,f:=f,vp:=vp,vs:=vs,vb:=vb,ch:=pk,Bf:=0,cf:=0,Am:=A8,Bm:=Bm,cm:=c8,us:=us,Bs:=N+3,Bv:=Bv,Bh:=Bh},rfl,rfl,rfl,?_,?_,y,A⟩
 ·exact {
     st:=by rw[hn];exact h.ws.st
     vals:=h.hv
     had:=h.hh
     hlen:=by unfold Rn.start;simp
     mem:=⟨hul.symm,fun j b m l p t=>(h.mu.row j b m l p t).2⟩
     slots:=⟨by show us.length<=c8;omega,H.2,fun G=>by
       obtain⟨S,d,T,U⟩:=B G
       refine⟨S,d,T,fun j b m z p t=>U j _ ?_⟩
       have R:i.mem[j]?.map (fun r=>(r.length:Int))=some z:=by rw[<-vH,hsl];exact t
       obtain⟨l,hl,K⟩:=Option.map_eq_some_iff.1 R
       unfold usV
       rw[List.getElem?_zipWith,p,hl,<-K]
       rfl⟩
     fn:=hfn
     picks:=hpk
     wid:=Own1.nil _ _ _
     blk:=Own1.nil _ _ _
     old:=⟨by show N<=N+3;omega,by show N<=Bv;omega,by show N<=Bh;omega,by show N<=Bm;omega,fun j b m u=>by have:=C j b m u;show N<=b;omega⟩
     apart:=h.mu.apart
     farW:=fun k F=>by cases F
     farB:=fun k F=>by cases F}
 ·intro q Q;rcases Q with (e|e|e|⟨j,m,e⟩)|e|e
  ·have L:q=N+3:=e;omega
  ·have L:q=Bv:=e;omega
  ·have L:q=Bh:=e;omega
  ·have:=C j q m e;omega
  ·cases e
  ·cases e
theorem pJ:((prog).info? 122).map (·.size)=some 16:=by kernel_rfl
theorem ry:((prog).info? 81).map (·.size)=some 10:=by kernel_rfl
theorem nN:(prog.info? 22).map (fun i=>(i.zero,i.size,i.bytes))=some (some (.slice none 0 0),1,24):=by kernel_rfl
theorem rp (hRA:Ref.RcAll){w:World}{f:Fn}{vf:Value}(hfn:FnAt w.heap.size w vf f)(hf:VFn f){i:Rn.Inp}{va vm:Value}(ha:U32At w.heap.size w va i.args)(hm:TabAt w.heap.size w vm i.mem)(hi:Rn.validInput f i=0)(hnn:∀a∈i.args,0<=a)
  {vpk:Value} {picks:List Int} (hpk:U32At w.heap.size w vpk picks) (hpr:∀z∈picks,0<=z/\z<4294967296) (hpl:picks.length<=1000) :
  Calls prog 45 #[vf,.agg #[va,vm],vpk] w fun e w'=>ui f i picks w.heap.size e w'/\Gr w w':=by
 obtain⟨i0,bO,bX,bY,bZ⟩:=info_parts dR;obtain⟨i1,bP,bU,bV,bW⟩:=info_parts nN;obtain⟨hv,bM,al,bT,bN⟩:=Rn.valid_input hi;have ao:=hf.val.size
 have ac:Ref.count f<=1000:=by
  have e:Ref.count f=f.params.length+Ref.total f.blocks:=by unfold Ref.count Ref.number;rw[wg]
  omega
 have bQ:f.params.length<=Ref.count f:=by unfold Ref.count Ref.number;omega
 have a1:f.blocks.length<=100000:=by have:=ao.2.2.2.1;omega
 obtain⟨vp,vs,vb,rfl,hp,hs,hb⟩:=hfn;have aO:Hid (FnAt w.heap.size w (.agg #[vp,.int .i64 f.ret,vs,vb]) f):=⟨vp,vs,vb,rfl,hp,hs,hb⟩;obtain⟨W0,ax⟩:=xJ (w.alloc (.cells #[vp,.int .i64 f.ret,vs,vb] 25));obtain⟨W1,ay⟩:=xJ (W0.alloc (.cells #[va,vm] 29));obtain⟨W2,aj⟩:=xJ (W1.alloc (.cells #[.int .i64 0,.bool false,.int .i64 0,.int .u32 0,ef,ef,ef,.int .i64 0,ef,ef] 81));obtain⟨W3,az⟩:=xJ (W2.alloc (.cells #[.slice none 0 0,.int .i64 0,.slice none 0 0,.slice none 0 0,.slice none 0 0,.slice none 0 0,.int .i64 0,.bool false,.int .i64 0,.int .u32 0,.slice none 0 0,.slice none 0 0,.slice none 0 0,.int .i64 0,.slice none 0 0,.slice none 0 0] 122));obtain⟨W,hW⟩:=xJ (W3.setRow (w.heap.size+3) (rh vp f.ret vs vb ef vpk ef ef));have s0:W0.heap.size=w.heap.size+1:=by rw[<-ax];simp
 have s1:W1.heap.size=w.heap.size+2:=by rw[<-ay];simp[s0]
 have s2:W2.heap.size=w.heap.size+3:=by rw[<-aj];simp[s1]
 have bd:W3.heap.size=w.heap.size+4:=by rw[<-az];simp[s2]
 have q3:W3.heap[w.heap.size+3]?=some (.cells #[.slice none 0 0,.int .i64 0,.slice none 0 0,.slice none 0 0,.slice none 0 0,.slice none 0 0,.int .i64 0,.bool false,.int .i64 0,.int .u32 0,.slice none 0 0,.slice none 0 0,.slice none 0 0,.int .i64 0,.slice none 0 0,.slice none 0 0] 122 (0,0)):=by rw[<-az,<-s2];exact heap_alloc_new _ _
 have s3:W.heap.size=w.heap.size+4:=by rw[<-hW,iR];exact bd
 have gW:Gr w W0:=by rw[<-ax];exact(wL _).alloc _
 have gA:Gr W0 W1:=by rw[<-ay];exact(wL _).alloc _
 have gB:Gr W1 W2:=by rw[<-aj];exact(wL _).alloc _
 have aY:Gr W2 W3:=by rw[<-az];exact(wL _).alloc _
 have gC:Gr W2 W:=gr_frs' (S:=fun k=>k=w.heap.size+3) aY (by rw[<-hW];exact FrS.setRow (S:=fun k=>k=w.heap.size+3) (FrS.refl _ _) rfl _) (fun k I=>by omega);have q0:W0.heap[w.heap.size]?=some (.cells #[vp,.int .i64 f.ret,vs,vb] 25 (0,0)):=by rw[<-ax];exact heap_alloc_new _ _
 have q1:W1.heap[w.heap.size+1]?=some (.cells #[va,vm] 29 (0,0)):=by rw[<-ay,<-s0];exact heap_alloc_new _ _
 have q2:W2.heap[w.heap.size+2]?=some (.cells #[.int .i64 0,.bool false,.int .i64 0,.int .u32 0,ef,ef,ef,.int .i64 0,ef,ef] 81 (0,0)):=by rw[<-aj,<-s1];exact heap_alloc_new _ _
 have aW:Hid (WS (w.heap.size+3) W W (rh vp f.ret vs vb ef vpk ef ef)):=⟨FrS.refl _ _,by rw[<-hW];exact eA q3⟩;have X:=(((gB.trans gC)).heap _ (by omega)).trans ((gA.heap _ (by omega)).trans q0);have r1:=((gB.trans gC).heap _ (by omega)).trans q1;have r2:=(gC.heap _ (by omega)).trans q2
 have ap:Hid (∀(wr:World)(row:Array Value),WS (w.heap.size+3) W wr row->wr.heap[w.heap.size]?=some (.cells #[vp,.int .i64 f.ret,vs,vb] 25 (0,0))/\wr.heap[w.heap.size+1]?=some (.cells #[va,vm] 29 (0,0)) /\
     wr.heap[w.heap.size+2]?=some (.cells #[.int .i64 0,.bool false,.int .i64 0,.int .u32 0,ef,ef,ef,.int .i64 0,ef,ef] 81 (0,0))/\Gr w wr):=fun wr row h =>
  ⟨(h.fr.block _ (by omega) (by omega)).trans X,(h.fr.block _ (by omega) (by omega)).trans r1,(h.fr.block _ (by omega) (by omega)).trans r2,gr_frs' (((gW.trans gA).trans gB).trans gC) h.fr (fun k I=>by omega)⟩
 have aP:Hid (∀(k:Nat)(l:List Int),i.mem[k]?=some l->1<=l.length/\l.length<=8):=fun k l hl=>by have h1:=congrArg (fun q=>q[k]?) al;simp only[vH,hl,Option.map_some]at h1;have h2:=vT.1 hf.val.head.2 _ (vz h1.symm);unfold Ref.isSlot at h2;simp at h2;omega
 have bx:Hid (∀(k:Nat)(l:List Int),i.mem[k]?=some l->∃bm om vl,vm=.slice (some ⟨bm,om,none⟩) i.mem.length (match vm with|.slice _ _ c=>c|_=>0)/\IntsAt w.heap.size w vl l/\∀wr,Gr w wr->wr.cell? ⟨bm,om+k,none⟩=some vl):=fun k l hl=>by obtain⟨A,c,rfl,-,-,h3⟩:=hm;obtain⟨b,o,rfl,hb,h4⟩:=h3 (by have:=(yq.1 hl).1;omega);obtain⟨u,hu,h5⟩:=h4 k l hl;exact⟨b,o,u,rfl,h5,fun wr g=>(g.cell _ _ (by omega)).trans hu⟩
 have aQ:Hid (i.mem.map (fun r=>(r.length:Int))=f.slots):=al
 have bB:Hid (i.mem.length<=1000):=by show _<=_;have h1:=congrArg List.length al;rw[vS]at h1;omega
 have bl:Hid (i.args.length<=Ref.count f):=by show _<=_;omega
 have bk:Hid (∀k x,i.args[k]?=some x->∃b o,va=.slice (some ⟨b,o,none⟩) i.args.length (match va with|.slice _ _ c=>c|_=>0)/\∀wr,Gr w wr->wr.cell? ⟨b,o+k,none⟩=some (.int .u32 x)):=fun k x hx=>by obtain⟨A,c,rfl,-,-,h3⟩:=ha;obtain⟨b,o,rfl,hb,h4⟩:=h3 (by have:=(yq.1 hx).1;omega);exact⟨b,o,rfl,fun wr g=>(g.cell _ _ (by omega)).trans (h4 k x hx)⟩
 have HF:=dJ hf;have HI:=dJ hi;have bC:=dJ hnn;have bD:=dJ hpk;have bE:=dJ hpr;have B:=dJ s3;have aS:=dJ hRA;obtain⟨k0,k1,k2,k3⟩:W0.cell? ⟨w.heap.size,0,none⟩=some vp/\W0.cell? ⟨w.heap.size,1,none⟩=some (.int .i64 f.ret)/\W0.cell? ⟨w.heap.size,2,none⟩=some vs/\W0.cell? ⟨w.heap.size,3,none⟩=some vb:=⟨vX _ _ 0 _ _ _ q0,vX _ _ 1 _ _ _ q0,vX _ _ 2 _ _ _ q0,vX _ _ 3 _ _ _ q0⟩;have ah:=(gB.heap _ (by omega)).trans ((gA.heap _ (by omega)).trans q0);obtain⟨l0,l1,l2,l3⟩:W2.cell? ⟨w.heap.size,0,none⟩=some vp/\W2.cell? ⟨w.heap.size,1,none⟩=some (.int .i64 f.ret)/\W2.cell? ⟨w.heap.size,2,none⟩=some vs/\W2.cell? ⟨w.heap.size,3,none⟩=some vb:=⟨vX _ _ 0 _ _ _ ah,vX _ _ 1 _ _ _ ah,vX _ _ 2 _ _ _ ah,vX _ _ 3 _ _ _ ah⟩;obtain⟨Ap,cp,rfl,-⟩:=hp;obtain⟨As,cs,rfl,-⟩:=hs;obtain⟨Ab,cb,rfl,-⟩:=hb;obtain⟨Ak,ck,rfl,-⟩:=id hpk;obtain⟨Aa,ca,rfl,-⟩:=ha;obtain⟨Am,cm,rfl,-⟩:=hm;unfold rh ef at hW;unfold ef at aj;clear hi hv bT bN ao bM al bQ hf hnn hpk hpr hRA q0 q1 q2 ah X r1 r2 gW gA gB gC;have bF:=dJ q3;clear q3 aY bd
 go_enter func45, ntmps45
 go_wp2_with (refine wpList_store_row rfl 122 (.tmp 7) (.tmp 16) rfl (w.heap.size+3) #[.slice Ap f.params.length cp,.int .i64 f.ret,.slice As f.slots.length cs,.slice Ab f.blocks.length cb,.slice none 0 0,.slice Ak picks.length ck,.int .i64 0,.bool false,.int .i64 0,.int .u32 0,.slice none 0 0,.slice none 0 0,.slice none 0 0,.int .i64 0,.slice none 0 0,.slice none 0 0] rfl rfl 122 #[.slice none 0 0,.int .i64 0,.slice none 0 0,.slice none 0 0,.slice none 0 0,.slice none 0 0,.int .i64 0,.bool false,.int .i64 0,.int .u32 0,.slice none 0 0,.slice none 0 0,.slice none 0 0,.int .i64 0,.slice none 0 0,.slice none 0 0] bF.out (by rw[pJ];rfl) rfl (by simp[Value.oneCell']) ?_;rw[hW])
 go_loopw [8] (fun s8 wr=>∃(k:Nat)(us:List (Nat × Nat))(A8:Option Addr)(c8:Nat),k<=i.mem.length/\s8=.int .i64 (k:Int)/\us.length=k /\
     Hid (WS (w.heap.size+3) W wr (rh (.slice Ap f.params.length cp) f.ret (.slice As f.slots.length cs) (.slice Ab f.blocks.length cb) (.slice A8 k c8) (.slice Ak picks.length ck) ef ef)) /\
     Hid (MU (w.heap.size+1) wr us i.mem ef)/\Hid (Own1 (w.heap.size+4) 22 wr (.slice A8 k c8) (usV us i.mem))) (fun s8 _=>i.mem.length-(intOf s8).toNat)
 case atStart=>exact⟨0,[],none,0,vU _,rfl,rfl,aW,MU.nil _ _ _ _,Own1.nil _ _ _⟩
 case round =>
  obtain⟨k,us,A8,c8,I,rfl,U,J,am,F⟩:=hrel;have bS:=B.out;obtain⟨X,r1,r2,gw⟩:=ap.out _ _ J.out;have x1:wr.cell? ⟨w.heap.size+1,1,none⟩=some (.slice Am i.mem.length cm):=vX _ _ 1 _ _ _ r1;by_cases O:k<i.mem.length
  ·obtain⟨l,hl⟩:∃l,i.mem[k]?=some l:=⟨_,vu O⟩;obtain⟨bm,om,vl,aG,aF,a3⟩:=bx.out k l hl;injection aG with aG _ _;subst aG;obtain⟨l1,l2⟩:=aP.out k l hl;obtain⟨Al,cl,rfl,-⟩:=id aF
   have HC:Hid (∀j,Gr wr j->j.cell? ⟨w.heap.size+3,4,none⟩=some (.slice A8 k c8)/\j.cell? ⟨w.heap.size+1,1,none⟩=some (.slice (some ⟨bm,om,none⟩) i.mem.length cm)/\j.cell? ⟨bm,om+k,none⟩=some (.slice Al l.length cl)/\j.frozen? ⟨w.heap.size+3,4,none⟩=false /\
       IntsAt w.heap.size j (.slice Al l.length cl) l/\Own1 (w.heap.size+4) 22 j (.slice A8 k c8) (usV us i.mem)/\w.heap.size+4<=j.heap.size):=fun j D=>by
    have aH:=J.out.grow D (by omega);exact⟨vX _ _ 4 _ _ _ aH.st,vX _ _ 1 _ _ _ (ap.out _ _ aH).2.1,a3 j (gw.trans D),vY _ _ 4 _ _ aH.st,aF.below (gw.trans D),F.out.gr D,by have:=J.out.fr.size;have:=D.size;omega⟩
   have aN:Hid (∀(j w2:World)(be:Obj)(b H:Nat)(A2:Option Addr)(c2:Nat),Gr wr j->tO j wr.heap.size b H l->(j.alloc be).grownBy w2 (Value.slice A8 k c8).ownBlock->Own1 (w.heap.size+4) 22 w2 (.slice A2 (k+1) c2) (usV us i.mem++[.slice (some ⟨b,0,none⟩) l.length H])->_):=fun j w2 be b H A2 c2 D hb hg an=>tM B.out J.out am.out F.out U hl D hb hg an;have bJ:Hid ((usV us i.mem).length=k):=by show _=_;rw[gF _ _ (by omega),U]
   have Z:Hid (∀u:Nat × Nat,(us++[u]).length=k+1):=fun u=>by simp[U]
   have bi:k<1000000:=by have h3:i.mem.length<=1000:=bB.out;omega
   have mixed:(prog).follows .mixedOrders=true:=by kernel_rfl
   obtain⟨x4,-,xl,z4,-⟩:=HC.out wr (wL _);have Q4:=fun o=>(HC.out (wr.alloc o) ((wL wr).alloc o)).1;have Q1:=fun o=>(HC.out (wr.alloc o) ((wL wr).alloc o)).2.1;have Ql:=fun o=>(HC.out (wr.alloc o) ((wL wr).alloc o)).2.2.1;clear hl U J am F aF a3 X r1 r2;go_wp2
   go_region_law_o (first|(refine qP (C:=w.heap.size) (ys:=l) underlying22 bO bX bY bZ rfl rfl (.tmp 26) (.tmp 31) rfl rfl (HC.out _ ((wL wr).alloc _).drew).2.2.2.2.1 rfl (by omega) ?_;intro b H j aD D;have G1:Hid (Gr wr j):=(((wL wr).alloc _).drew).trans D;have bI:Hid (tO j wr.heap.size b H l):=⟨Nat.le_trans (by simp) aD.1,aD.2⟩;have av:=dJ (HC.out j G1.out);have ch:=av.out.1;have b8:=fun o=>(HC.out (j.alloc o) (G1.out.alloc o)).1;clear aD D)|(refine gE (n:=k) (v:=.slice A8 k c8) underlying27 bP bU bV bW rfl (by omega) rfl (.tmp 25) (.tmp 33) rfl bJ.out rfl av.out.2.2.2.2.2.1 rfl rfl (by omega) av.out.2.2.2.2.2.2 ?_;intro A2 c2 w2 an a7 a0;have ar:=dJ (aN.out j w2 _ b H A2 c2 G1.out bI.out a7 an);have ci:=ar.out.1.1;have cj:=ar.out.1.2;clear an a7 a0))
   all_goals go_wp2
   all_goals
    obtain⟨-,j1,j2,j3⟩:=ar.out;exact⟨⟨k+1,us++[(b,H)],A2,c2,by omega,by go_num,Z.out _,j1,j2,j3⟩,by simp[intOf];omega⟩
  ·obtain rfl:k=i.mem.length:=by omega
   obtain⟨n,hn⟩:=xJ (Ref.count f);have ai:=dJ hn;have CN:=dJ (fw (.agg #[.slice Ap f.params.length cp,.int .i64 f.ret,.slice As f.slots.length cs,.slice Ab f.blocks.length cb]) f f.blocks.length wr ((aO.out.below gw).mono gw.size) (vV _) a1);rw[show Ref.number f f.blocks.length=n from hn]at CN;rw[hn]at ac;have ce:=fun T=>ff T n ac;have cd:=fun T=>mO T n ac;have bH:Hid (Array.replicate n (Value.bool false)=((List.replicate n false).map Value.bool).toArray):=by (show _=_);simp
   have f0:wr.cell? ⟨w.heap.size,0,none⟩=some (.slice Ap f.params.length cp):=vX _ _ 0 _ _ _ X;have f1:wr.cell? ⟨w.heap.size,1,none⟩=some (.int .i64 f.ret):=vX _ _ 1 _ _ _ X;have f2:wr.cell? ⟨w.heap.size,2,none⟩=some (.slice As f.slots.length cs):=vX _ _ 2 _ _ _ X;have f3:wr.cell? ⟨w.heap.size,3,none⟩=some (.slice Ab f.blocks.length cb):=vX _ _ 3 _ _ _ X
   have bA:Hid (∀j,Gr wr j->j.heap[w.heap.size+3]?=some (.cells (rh (.slice Ap f.params.length cp) f.ret (.slice As f.slots.length cs) (.slice Ab f.blocks.length cb) (.slice A8 i.mem.length c8) (.slice Ak picks.length ck) ef ef) 122 (0,0))/\w.heap.size+3<j.heap.size /\
       WM w.heap.size n W ((((j.setCell ⟨w.heap.size+3,14,none⟩ (.slice (some ⟨j.heap.size,0,none⟩) n n)).setCell ⟨w.heap.size+3,15,none⟩ (.slice (some ⟨j.heap.size+1,0,none⟩) n n)).alloc (.cells (dy (List.replicate n Rn.zero)).toArray 37)).alloc (.cells ((List.replicate n false).map Value.bool).toArray 4)) (.slice Ap f.params.length cp) f.ret (.slice As f.slots.length cs) (.slice Ab f.blocks.length cb) (.slice A8 i.mem.length c8) (.slice Ak picks.length ck) us i.mem j.heap.size (j.heap.size+1) (eu Rn.zero (i.args.map Rn.word) n 0) (eu false (i.args.map fun _=>true) n 0)):=fun j D=>by
    have h1:=J.out.grow D (by omega);refine⟨h1.st,cY h1.st,?_⟩;rw[fB,fB];exact tL B.out h1 (am.out.keep (by omega) (FrS.of_gr (S:=fun _=>False) D) (fun _ _ q=>q)) (F.out.gr D) (by omega) _ _
   have Z:Hid (us.length=i.mem.length):=U;clear hn O I J am F U X r1 r2;go_wp2_with (go_at_call 80;refine CN.out.mono ?_;rintro e j ⟨rfl,D⟩;obtain⟨m1,m2,m3⟩:=bA.out j D;have bs:=dJ m3;obtain⟨bg,bh⟩:=crw2 m1 14 15;obtain⟨cn,cq⟩:=frw2 m1 14 15;clear D m1 m3 f0 f1 f2 f3)
   go_loopw [10] (fun aJ wr=>∃k Bv Bh:Nat,k<=i.args.length/\aJ=.int .i64 (k:Int)/\Hid (WM w.heap.size n W wr (.slice Ap f.params.length cp) f.ret (.slice As f.slots.length cs) (.slice Ab f.blocks.length cb) (.slice A8 i.mem.length c8) (.slice Ak picks.length ck) us i.mem Bv Bh (eu Rn.zero (i.args.map Rn.word) n k) (eu false (i.args.map fun _=>true) n k))) (fun aJ _=>i.args.length-(intOf aJ).toNat)
   case atStart =>
    (try rw[bH.out]);exact⟨0,j.heap.size,j.heap.size+1,vU _,rfl,bs⟩
   case round =>
    obtain⟨k,Bv,Bh,I,rfl,d⟩:=hrel;obtain⟨X,r1,r2,gw⟩:=ap.out _ _ d.out.ws;have x0:wr.cell? ⟨w.heap.size+1,0,none⟩=some (.slice Aa i.args.length ca):=vX _ _ 0 _ _ _ r1;have aZ:i.args.length<=n:=by have:=bl.out;have:=ai.out;omega
    by_cases O:k<i.args.length
    ·obtain⟨x,hx⟩:∃x,i.args[k]?=some x:=⟨_,vu O⟩;obtain⟨ba,oa,aE,a2⟩:=bk.out k x hx;injection aE with aE _ _;subst aE;have xa:=a2 wr gw;have b9:wr.cell? ⟨w.heap.size+3,14,none⟩=some (.slice (some ⟨Bv,0,none⟩) n n):=vX _ _ 14 _ _ _ d.out.ws.st;have cc:wr.cell? ⟨w.heap.size+3,15,none⟩=some (.slice (some ⟨Bh,0,none⟩) n n):=vX _ _ 15 _ _ _ d.out.ws.st;have a8:k<n:=by omega
     obtain⟨y,hy⟩:∃y,(eu Rn.zero (i.args.map Rn.word) n k)[k]?=some y:=⟨_,vu (by rw[fo _ _ _ _ (by simp;omega) (by simp;omega)];exact a8)⟩;obtain⟨z,hz⟩:∃z,(eu false (i.args.map fun _=>true) n k)[k]?=some z:=⟨_,vu (by rw[fo _ _ _ _ (by simp;omega) (by simp;omega)];exact a8)⟩;obtain⟨aK,aL,aM⟩:=dZ _ _ _ hy;rw[Nat.mul_comm]at aK aL aM;have d0:wr.cell? ⟨Bv,k*3,none⟩=some (.bool y.p):=(vX _ _ _ _ _ _ d.out.hv).trans (by simpa using aK);have d1:wr.cell? ⟨Bv,k*3+1,none⟩=some (.int .i64 y.s):=(vX _ _ _ _ _ _ d.out.hv).trans (by simpa using aL);have d2:wr.cell? ⟨Bv,k*3+2,none⟩=some (.int .u32 y.n):=(vX _ _ _ _ _ _ d.out.hv).trans (by simpa using aM);have e0:wr.cell? ⟨Bh,k,none⟩=some (.bool z):=(vX _ _ _ _ _ _ d.out.hh).trans (by simp[hz]);have f0:wr.frozen? ⟨Bv,k*3,none⟩=false:=vY _ _ _ _ _ d.out.hv;have f1:wr.frozen? ⟨Bv,k*3+1,none⟩=false:=vY _ _ _ _ _ d.out.hv;have f2:wr.frozen? ⟨Bv,k*3+2,none⟩=false:=vY _ _ _ _ _ d.out.hv;have f3:wr.frozen? ⟨Bh,k,none⟩=false:=vY _ _ _ _ _ d.out.hh;have n0:Bv≠Bh:=gs d.out.hv d.out.hh (by decide);have n1:w.heap.size+3≠Bv:=by have:=d.out.vN;omega
     have n2:w.heap.size+3≠Bh:=by have:=d.out.hN;omega
     have af:us.length<=i.mem.length:=by have:=Z.out;omega
     have h9:=sI (k:=k) B.out (d.out.grow B.out af ((wL wr).drew)) af x;have h8:=(sI (k:=k) B.out d.out af x).grow B.out af ((wL _).drew);rw[fA Rn.zero (i.args.map Rn.word) n k (by simp;omega) (Rn.word x) (by rw[vH,hx];rfl),fA false (i.args.map fun _=>true) n k (by simp;omega) true (by rw[vH,hx];rfl)]at h9 h8;have H9:=dJ h9;have H8:=dJ h8;clear hx hy hz aK aL aM h9 h8 d af X r1 r2 gw a2;go_wp2
     go_region_with (fail)
     all_goals go_wp2
     all_goals first
      | exact⟨⟨k+1,Bv,Bh,by omega,by go_num,H9⟩,by simp[intOf];omega⟩
      | exact⟨⟨k+1,Bv,Bh,by omega,by go_num,H8⟩,by simp[intOf];omega⟩
    ·obtain rfl:k=i.args.length:=by omega
     have ag:=d.out
     rw[show eu Rn.zero (i.args.map Rn.word) n i.args.length=(Rn.start f i).vals by unfold eu Rn.start;rw[ai.out,vO (by simp)],
       show eu false (i.args.map fun _=>true) n i.args.length=(Rn.start f i).had by unfold eu Rn.start;rw[ai.out,vO (by simp)],<-Z.out]at ag
     obtain⟨c,e1,e2,e3,a6,a5,bb,Q⟩:=un B.out ag Z.out (by unfold Rn.start;have:=ai.out;simp;omega) aQ.out (aO.out.below gw) (U32At.frsD bD.out gw);obtain⟨l,hl,he⟩:=Rn.start_ent aS.out HI.out bC.out;subst e2;obtain⟨R,hR⟩:=xJ (Rn.run c.f (Rn.given picks) i);obtain⟨Wd,bL⟩:∃Wd,Wd=wr:=⟨_,rfl⟩;subst bL;have bG:Hid (gN [] (Rn.from_ c.f (Rn.given picks) 401 0 (-1) (Rn.start c.f i))=R):=by show _=_;rw[<-hR];rfl
     have HR:=dJ hR;have bn:Hid (DLeft c picks Wd ef ef (Rn.start c.f i) [] ⟨0,Rn.zero,[]⟩ ef Wd):=a6.left (FrS.refl _ _);have HL:=dJ hl;have HE:=dJ he;have aq:=dJ (And.intro a5 (And.intro bb Q));have au:=dJ e3;have bo:=dJ e1;have br:=dJ gw;have bK:Hid (Rn.WOk (Rn.start c.f i)):=⟨vU _,fun z hz=>by cases hz⟩;have Y:=dJ r2;clear d ag a6 a5 bb Q hl he hR e1 e3 X r1 r2 gw aZ O I;go_wp2
     go_loopg [11,12] 401 (fun kx b0 b1 wr=>∃bz fz:Int,b1=.int .i64 bz/\b0=.int .i64 fz/\((∃(G:Nat)(sq:Rn.St)(T:List Int)(lq:List Ins),bz=(G:Int)/\Hid (DLeft c picks Wd ef ef sq T ⟨0,Rn.zero,[]⟩ ef wr)/\Hid (c.f.blocks[G]?=some lq)/\Hid (Rn.Ent c.f G fz lq sq)/\sq.steps<=400/\Hid (Rn.WOk sq)/\401<=sq.steps+kx/\T.length+kx<=401/\Hid (gN T (Rn.from_ c.f (Rn.given picks) kx G fz sq)=R)) \/
         (bz=-1/\Hid (DLeft c picks Wd ef ef R.2.1 R.2.2 R.1 (pV c R.1) wr))))
     case atStart=>exact⟨0,-1,rfl,rfl,.inl ⟨0,Rn.start c.f i,[],l,rfl,bn,HL,HE,vU _,bK,by omega,by simp,bG⟩⟩
     case round =>
      obtain⟨bz,fz,rfl,rfl,⟨G,sq,T,lq,rfl,ad,aA,ae,bc,aI,b6,hT,L⟩|⟨rfl,ad⟩⟩:=hrel
      ·obtain⟨k,rfl⟩:∃k,gk=k+1:=⟨gk-1,by omega⟩;obtain⟨bf,aX,p1,F1,O1⟩:=ad.out;have CB:=nA p1 HF.out (by have:=aq.out.2.2;have:=F1.size;omega) bE.out hpl (by omega) aA.out ae.out bc aI.out;rw[au.out]at CB;have bj:=dJ CB;have ab:=Rn.block_ok aS.out HF.out.val HF.out.im (Rn.given_ok picks) ae.out aA.out;have E:=Rn.block_steps c.f (Rn.given picks) G fz sq bc;have K:=Rn.block_wok HF.out.val HF.out.im (Rn.given picks) G fz aI.out;have aU:=dJ fun(s':Rn.St)(bl':List Int)(o':Rn.Out)(om':Value)(w':World)(h:DLeft c picks wr bf aX s' bl' o' om' w')=>dP F1 O1 h;have cf:(0:Int)<=(G:Int):=by omega
       clear CB p1 F1 O1 ad aI ae aA;go_wp2_with (fail)
       go_at_call 81
       (with_reducible refine bj.out.mono ?_);intro e w5 aa
       cases hq:Rn.block c.f (Rn.given picks) G fz sq with
       | mk r s2 =>
        rw[hq]at ab E K aa;have aV:=dJ K
        cases r with
        | over o =>
         have aw:Hid (R=(o,s2,T++[(G:Int)])):=by (show _=_);rw[<-L.out,kK hq];rfl
         obtain⟨rfl,hd⟩:=aa
         have HD:Hid (DLeft c picks Wd ef ef R.2.1 R.2.2 R.1 (pV c R.1) w5):=by rw[aw.out];exact aU.out _ _ _ _ _ hd
         clear hd hq ab E K L;go_wp2
         go_roundg k
         case measure=>omega
         case rel=>exact⟨-1,G,rfl,rfl,.inr ⟨rfl,HD⟩⟩
        | run t =>
         obtain⟨rfl,hd⟩:=aa;obtain⟨m,a9,Q,aB⟩:=ab;obtain⟨tn,rfl⟩:=vF a9;rw[vG]at Q aB;have bu:=dJ Q;have bv:=dJ aB
         have aw:Hid (gN (T++[(G:Int)]) (Rn.from_ c.f (Rn.given picks) k tn G s2)=R):=by (show _=_);rw[<-L.out,mI hq];unfold gN;simp
         have HD:=dJ (aU.out _ _ _ _ _ hd);have bR:s2.steps<=400:=E.1;have bS:sq.steps+1<=s2.steps:=E.2.2 _ rfl;clear hd hq E K L a9 Q aB;go_wp2
         go_roundg k
         case measure=>omega
         case rel=>exact⟨tn,G,rfl,rfl,.inl ⟨tn,s2,T++[(G:Int)],m,rfl,HD,bu,bv,bR,aV,by omega,by rw[vW,List.length_singleton];omega,aw⟩⟩
      ·obtain⟨bf,aX,p1,F1,O1⟩:=ad.out;obtain⟨Aw,cw,rfl⟩:=p1.wid.form;obtain⟨M,N,rfl⟩:=p1.blk.form;simp only[vS]at p1 O1
       obtain⟨Ao,no,co,aC⟩:∃A n c',pV c R.1=.slice A n c':=by unfold pV ef Cfg.mv;split<;>exact⟨_,_,_,rfl⟩
       have hp:=p1.st;unfold sQ at hp;rw[au.out,aC]at hp;have aT:Hid (wr.heap[w.heap.size+2]?=some (.cells #[.int .i64 0,.bool false,.int .i64 0,.int .u32 0,.slice none 0 0,.slice none 0 0,.slice none 0 0,.int .i64 0,.slice none 0 0,.slice none 0 0] 81 (0,0))):=(F1.block _ (by have:=au.out;have:=cY Y.out;omega) (fun q=>by have:=aq.out.1 _ q;omega)).trans Y.out;have HP:=dJ p1;have bp:=dJ (And.intro F1 O1);have aR:=dJ aC;obtain⟨⟨ok,⟨op,os,on⟩,b7⟩,S,BL⟩:=R;dsimp only at hp HP aR;obtain⟨y6,y7,y8,y9,b2,b3⟩:=crw6 hp 6 7 8 9 10 11;obtain⟨b4,b5,bg,bh⟩:=crw4 hp 12 13 14 15;clear p1 F1 O1 aC hp ad;go_wp2_with (refine wpList_store_row rfl 81 (.tmp 6) (.tmp 80) rfl (w.heap.size+2) #[.int .i64 ok,.bool op,.int .i64 os,.int .u32 on,.slice Ao no co,.slice Aw S.widths.length cw,.slice M BL.length N,.int .i64 S.steps,.slice (some ⟨c.Bv,0,none⟩) S.vals.length S.vals.length,.slice (some ⟨c.Bh,0,none⟩) S.vals.length S.vals.length] rfl rfl 81 #[.int .i64 0,.bool false,.int .i64 0,.int .u32 0,.slice none 0 0,.slice none 0 0,.slice none 0 0,.int .i64 0,.slice none 0 0,.slice none 0 0] aT.out (by rw[ry];rfl) rfl (by simp[Value.oneCell']) ?_);obtain⟨W9,ak⟩:=xJ (wr.setRow (w.heap.size+2) #[.int .i64 ok,.bool op,.int .i64 os,.int .u32 on,.slice Ao no co,.slice Aw S.widths.length cw,.slice M BL.length N,.int .i64 S.steps,.slice (some ⟨c.Bv,0,none⟩) S.vals.length S.vals.length,.slice (some ⟨c.Bh,0,none⟩) S.vals.length S.vals.length]);rw[ak];have h9:W9.heap[w.heap.size+2]?=some (.cells #[.int .i64 ok,.bool op,.int .i64 os,.int .u32 on,.slice Ao no co,.slice Aw S.widths.length cw,.slice M BL.length N,.int .i64 S.steps,.slice (some ⟨c.Bv,0,none⟩) S.vals.length S.vals.length,.slice (some ⟨c.Bh,0,none⟩) S.vals.length S.vals.length] 81 (0,0)):=by rw[<-ak];exact eA aT.out
       have F9:FrS (·=w.heap.size+2) wr W9:=by rw[<-ak];exact FrS.setRow (S:=fun k=>k=w.heap.size+2) (FrS.refl _ _) rfl _
       obtain⟨q0,q1,q2,q3,q4,q5⟩:=crw6 h9 0 1 2 3 4 5;obtain⟨q6,q7,q8,q9⟩:=crw4 h9 6 7 8 9;refine vZ (v:=.agg #[.int .i64 ok,.bool op,.int .i64 os,.int .u32 on,.slice Ao no co,.slice Aw S.widths.length cw,.slice M BL.length N,.int .i64 S.steps,.slice (some ⟨c.Bv,0,none⟩) S.vals.length S.vals.length,.slice (some ⟨c.Bh,0,none⟩) S.vals.length S.vals.length]) (by simp[results,results45,go_sem,q0,q1,q2,q3,q4,q5,q6,q7,q8,q9]) rfl ?_;clear ak h9 q0 q1 q2 q3 q4 q5 q6 q7 q8 q9 y6 y7 y8 y9 b2 b3 b4 b5 bg bh;obtain⟨d1,d2,d3⟩:=aq.out;obtain⟨F1,O1⟩:=bp.out;have e1:=bo.out;have cg:=F1.size;have O:=cY Y.out
       have a4:∀k,DO c (.slice Aw S.widths.length cw) (.slice M BL.length N) k->w.heap.size+3<=k:=fun k I=>by
        rcases O1 k I with q|q
        ·exact d1 k q
        ·have:=d2;have:=d3;omega
       refine⟨⟨c,.slice Aw S.widths.length cw,.slice M BL.length N,?_,rfl,?_,fun k I=>by have:=a4 k I;omega,by omega,by have:=F9.size;omega⟩,?_⟩
       ·rw[HR.out];unfold pR;rw[aR.out]
       ·rw[HR.out];exact HP.out.away F9 (fun k I=>⟨by omega,fun q=>by have:=a4 k q;omega,by omega⟩)
       ·exact gr_frs' (S:=fun k=>w.heap.size<=k) br.out ((F1.mono fun k I=>by have:=d1 k I;omega).trans (F9.mono fun k I=>by omega)) (fun k I=>I)
theorem lI {D:Nat->Prop}{B:Nat}{w:World}{v:Value}{outs:List Rn.Out}{vms:List Value}(h:OutsAt D B w v outs vms)(hn:outs.length<=1000)(ha:Rn.Asc outs){x:Rn.Out}{vx:Value}(hx:Keeps D w vx x.mem) :
  Calls prog 49 #[v,gS x vx,.func (.func 50) #[] #[]] w (RG (.tuple #[.int .i64 (Rn.below x outs:Nat),.bool (decide (outs[Rn.below x outs]?=some x))]) w):=by
 obtain⟨K,I⟩:=xJ (Rn.below x outs);have L:K<=outs.length:=by rw[<-I];exact Rn.below_le x outs
 have ad:Hid (∀j y,outs[j]?=some y->(Rn.cmpOut y x<0↔j<K)):=fun j y H=>by rw[<-I];exact Rn.below_at x outs ha j y H
 obtain⟨F,hF⟩:∃F,decide (outs[K]?=some x)=F:=⟨_,rfl⟩;have Z:=dJ hF;obtain⟨W,hW⟩:=xJ (ml w x vx);have g1:Gr w W:=by rw[<-hW];exact(wL w).alloc _
 have r:Hid (∀wr,Gr W wr->∀u:GrW wr,_):=fun wr g u=>ed (w:=w) (o:=x) (vm:=vx) (w':=u.val) (by rw[hW];exact g.trans u.gr);obtain⟨A,c,hv,hc,hA,ae⟩:=dU h.own;subst hv
 have Y:Hid (∀wr,Gr W wr->∀j y,outs[j]?=some y->∃b vy,A=some ⟨b,0,none⟩/\(∃X cy,vy=.slice X y.mem.length cy)/\(∀u:GrW wr,u.val.cell? ⟨b,j*5,none⟩=some (.int .i64 y.kind)/\u.val.cell? ⟨b,j*5+1,none⟩=some (.bool y.ret.p)/\u.val.cell? ⟨b,j*5+2,none⟩=some (.int .i64 y.ret.s)/\u.val.cell? ⟨b,j*5+3,none⟩=some (.int .u32 y.ret.n)/\u.val.cell? ⟨b,j*5+4,none⟩=some vy) /\
     ∀u:GrW wr,Calls prog 50 #[gS y vy,gS x vx] u.val (RG (.int .i64 (Rn.cmpOut y x)) u.val)):=fun wr g j y H=>by
  have hj:=(yq.1 H).1;obtain⟨b,e,af,-,Q⟩:=dz h.own rfl (by omega);obtain⟨vy,ac⟩:∃vy,vms[j]?=some vy:=⟨_,vu (by rw[h.len];exact hj)⟩;have hk:=h.at_ j y vy H ac;refine⟨b,vy,e,?_,fun u=>?_,fun u=>?_⟩
  ·obtain⟨-,⟨X,cy,e2⟩,-⟩:=hk;exact⟨X,cy,e2⟩
  ·have gg:Gr w u.val:=(g1.trans g).trans u.gr;have q:=fun t (ht:t<5)=>(gg.cell b (j*5+t) af).trans ((Q (j*5+t) (by omega)).trans (kJ outs vms j t y vy H ac ht));exact⟨q 0 (by decide),q 1 (by decide),q 2 (by decide),q 3 (by decide),q 4 (by decide)⟩
  ·have gg:Gr w u.val:=(g1.trans g).trans u.gr;exact fQ (hk.gr gg).tab (hx.gr gg).tab (vV _)
 have aa:=dJ g1;obtain⟨-,⟨Ax,cx,rfl⟩,-⟩:=hx;obtain⟨n,J⟩:=xJ outs.length;have HN:=dJ J;rw[J]at hn L hc;rw[I,hF,J];clear h ha I hF g1 J hA ae;unfold ml at hW;unfold gS at *
 go_enter func49, ntmps49
 go_wp2
 go_loopw [9,10] (fun s9 S wr=>∃C z:Nat,s9=.int .i64 (C:Int)/\S=.int .i64 (z:Int)/\C<=K/\K<=z/\z<=n/\Hid (Gr W wr)) (fun s9 S _=>(intOf S).toNat-(intOf s9).toNat)
 case atStart=>exact⟨0,n,rfl,rfl,vU _,L,vV _,wL _⟩
 case round =>
  obtain⟨C,z,rfl,rfl,h1,h2,h3,E⟩:=hrel;by_cases aj:C<z
  ·obtain⟨y,H⟩:∃y,outs[(C+z) / 2]?=some y:=⟨_,vu (by have:=HN.out;omega)⟩;obtain⟨b,vy,rfl,⟨X,cy,rfl⟩,l,m⟩:=Y.out wr E.out _ y H;have R:=ad.out _ y H;have U:=dJ m;obtain⟨d,hd⟩:=xJ (Rn.cmpOut y x);rw[hd]at U R;have ab:=dJ R;have U0:=fun u=>(l u).1;have U1:=fun u=>(l u).2.1;have U2:=fun u=>(l u).2.2.1;have U3:=fun u=>(l u).2.2.2.1;have U4:=fun u=>(l u).2.2.2.2;have X0:=fun u=>(r.out wr E.out u).1;have X1:=fun u=>(r.out wr E.out u).2.1;have X2:=fun u=>(r.out wr E.out u).2.2.1;have X3:=fun u=>(r.out wr E.out u).2.2.2.1;have X4:=fun u=>(r.out wr E.out u).2.2.2.2;have ah:(C+z) / 2<n:=by omega
   clear H l m R hd;by_cases M:d<0
   ·go_wp2;refine dc (by kernel_rfl) (by kernel_rfl) ?_;repeat (go_big_quiet_step ((rename_i u;go_at_call 50;exact di u (U.out u))))
    refine wpQuiet_nil ?_;intro w9 G;obtain⟨T,rfl⟩:=G;have N:=dJ (E.out.trans T.gr);clear U0 U1 U2 U3 U4 X0 X1 X2 X3 X4;go_wp2;have ag:(C+z) / 2<K:=ab.out.1 M;refine⟨⟨(C+z) / 2+1,z,by rw[show ((C:Int)+(z:Int)) / 2+1=(((C+z) / 2+1:Nat):Int) by omega],rfl,by omega,h2,h3,N⟩,by simp[intOf];omega⟩
   ·have ag:¬(C+z) / 2<K:=fun q=>M (ab.out.2 q);go_wp2;refine dc (by kernel_rfl) (by kernel_rfl) ?_;repeat (go_big_quiet_step ((rename_i u;go_at_call 50;exact di u (U.out u))))
    refine wpQuiet_nil ?_;intro w9 G;obtain⟨T,rfl⟩:=G;have N:=dJ (E.out.trans T.gr);clear U0 U1 U2 U3 U4 X0 X1 X2 X3 X4;go_wp2;refine⟨⟨C,(C+z) / 2,rfl,by rw[show ((C:Int)+(z:Int)) / 2=(((C+z) / 2:Nat):Int) by omega],h1,by omega,by omega,N⟩,by simp[intOf];omega⟩
  ·obtain rfl:C=K:=by omega
   obtain rfl:z=C:=by omega
   by_cases ai:z<n
   ·obtain⟨y,H⟩:∃y,outs[z]?=some y:=⟨_,vu (by have:=HN.out;omega)⟩;obtain⟨b,vy,rfl,⟨X,cy,rfl⟩,l,m⟩:=Y.out wr E.out _ y H;have U:=dJ m;have hz:=Rn.isCmp_out.zero y x;obtain⟨d,hd⟩:=xJ (Rn.cmpOut y x);rw[hd]at U hz
    have O:Hid (F=decide (d=0)):=by show _=_;rw[<-Z.out,H];simp[hz]
    have U0:=fun u=>(l u).1;have U1:=fun u=>(l u).2.1;have U2:=fun u=>(l u).2.2.1;have U3:=fun u=>(l u).2.2.2.1;have U4:=fun u=>(l u).2.2.2.2;have X0:=fun u=>(r.out wr E.out u).1;have X1:=fun u=>(r.out wr E.out u).2.1;have X2:=fun u=>(r.out wr E.out u).2.2.1;have X3:=fun u=>(r.out wr E.out u).2.2.2.1;have X4:=fun u=>(r.out wr E.out u).2.2.2.2;clear H l m hz hd;by_cases h0:d=0
    all_goals
     go_wp2;refine dc (by kernel_rfl) (by kernel_rfl) ?_;repeat (go_big_quiet_step ((rename_i u;go_at_call 50;exact di u (U.out u))))
     refine wpQuiet_nil ?_;intro w9 G;obtain⟨T,rfl⟩:=G;have N:=dJ (aa.out.trans (E.out.trans T.gr));clear U0 U1 U2 U3 U4 X0 X1 X2 X3 X4;go_wp2;go_ret2;refine⟨?_,N.out⟩;rw[O.out];simp[h0]
   ·have O:Hid (F=false):=by
     show _=_;rw[<-Z.out,vP (by have:=HN.out;omega)];simp
    go_wp2;refine dc (by kernel_rfl) (by kernel_rfl) ?_;repeat (go_big_quiet_step (fail))
    refine wpQuiet_nil ?_;intro w9 G;obtain⟨T,rfl⟩:=G;have N:=dJ (aa.out.trans (E.out.trans T.gr));go_wp2;go_ret2;refine⟨?_,N.out⟩;rw[O.out];rfl
theorem nM:(prog.info? 22).map (fun i=>(i.zero,i.size,i.bytes))=some (some (.slice none 0 0),1,24):=by kernel_rfl
theorem jA {B0:Nat}{w:World}{f:Fn}{vf:Value}(hfn:FnAt B0 w vf f)(hB0:B0<=w.heap.size)(hf:VFn f){i:Rn.Inp}{va vm:Value}(ha:U32At B0 w va i.args)(hm:TabAt B0 w vm i.mem)(hi:Rn.validInput f i=0)(T:TypeId)(p:Value) :
  Calls prog 47 #[vf,.agg #[va,vm],.iface T p] w fun e w'=>∃c:Cfg,c.n₀=B0/\c.f=f/\c.ch=.iface T p/\e=.returned (.pointer (some ⟨c.Bs,0,none⟩))/\PS c w' (Rn.start f i) 0 (-1) (.slice none 0 0)/\Gr w w'/\(∀k,Kept c k->w.heap.size<=k)/\c.Bm<w'.heap.size:=by
 obtain⟨i0,cc,cy,cz,cA⟩:=info_parts dR;obtain⟨i1,cd,cu,cv,cw⟩:=info_parts nM;have cr:=Rn.valid_input hi;obtain⟨hv,b0,ap,ct,b7⟩:=cr;have av:=hf.val.size
 have ag:Ref.count f<=1000:=by
  have e:Ref.count f=f.params.length+Ref.total f.blocks:=by unfold Ref.count Ref.number;rw[wg]
  omega
 have ck:f.params.length<=Ref.count f:=by unfold Ref.count Ref.number;omega
 have cD:f.blocks.length<=10:=av.2.2.2.1;have cM:1<=f.blocks.length:=by omega
 obtain⟨vp,vs,vb,rfl,hp,hs,hb⟩:=hfn;have bs:Hid (FnAt B0 w (.agg #[vp,.int .i64 f.ret,vs,vb]) f):=⟨vp,vs,vb,rfl,hp,hs,hb⟩;obtain⟨N,hN⟩:=xJ w.heap.size;rw[hN]at hB0;obtain⟨W0,aA⟩:=xJ (w.alloc (.cells #[vp,.int .i64 f.ret,vs,vb] 25));obtain⟨W1,aB⟩:=xJ (W0.alloc (.cells #[va,vm] 29));obtain⟨W2,aC⟩:=xJ (W1.alloc (.cells #[vp,.int .i64 f.ret,vs,vb,.iface T p,.slice none 0 0,.slice none 0 0,.slice none 0 0,.slice none 0 0,.int .i64 0,.int .i64 (-1),.int .i64 0,.slice none 0 0] 100));have s0:W0.heap.size=N+1:=by rw[<-aA,<-hN];simp
 have s1:W1.heap.size=N+2:=by rw[<-aB];simp[s0]
 have s2:W2.heap.size=N+3:=by rw[<-aC];simp[s1]
 have q0:W0.heap[N]?=some (.cells #[vp,.int .i64 f.ret,vs,vb] 25 (0,0)):=by rw[<-aA,<-hN];exact heap_alloc_new _ _
 have gA:Gr W0 W1:=by rw[<-aB];exact(wL _).alloc _
 have gB:Gr W1 W2:=by rw[<-aC];exact(wL _).alloc _
 have gW:Gr w W0:=by rw[<-aA];exact(wL _).alloc _
 have q1:W1.heap[N+1]?=some (.cells #[va,vm] 29 (0,0)):=by rw[<-aB,<-s0];exact heap_alloc_new _ _
 have aS:Hid (SS N w W2 vp f.ret vs vb (.iface T p) va vm (.slice none 0 0) (.slice none 0 0) (.slice none 0 0) (.slice none 0 0)):={
   gr:=(gW.trans gA).trans gB
   n:=hN.symm
   fb:=(gB.heap _ (by omega)).trans ((gA.heap _ (by omega)).trans q0)
   ib:=(gB.heap _ (by omega)).trans q1
   st:=by rw[<-aC,<-s1];exact heap_alloc_new _ _}
 obtain⟨Ap,cp,rfl,p1,p2,-⟩:=hp;obtain⟨As,cs,rfl,-,-,-⟩:=hs;obtain⟨Ab,cb,rfl,b1,b2,b3⟩:=hb;obtain⟨bb,ob,rfl,cN,b4⟩:=b3 (by omega)
 have bq:Hid (∀wr,Gr w wr->∀k l,f.blocks[k]?=some l->∃Al cl,wr.cell? ⟨bb,ob+k,none⟩=some (.slice Al l.length cl)):=fun wr g k l hl=>by obtain⟨u,U,Al,cl,rfl,-⟩:=b4 k l hl;exact⟨Al,cl,(g.cell _ _ (by omega)).trans U⟩
 have bC:Hid (∀k l,f.blocks[k]?=some l->Ref.number f (k+1)=Ref.number f k+l.length/\Ref.number f k+l.length<=1000):=fun k l hl=>⟨Ref.number_next f hl,by have:=Ref.number_count f hl;omega⟩;have HA:=dJ ha
 have ar:Hid (∀(k:Nat)(l:List Int),i.mem[k]?=some l->1<=l.length/\l.length<=8):=fun k l hl=>by have D:=congrArg (fun q=>q[k]?) ap;simp only[vH,hl,Option.map_some]at D;have L:=vT.1 hf.val.head.2 _ (vz D.symm);unfold Ref.isSlot at L;simp at L;omega
 have bz:Hid (∀wr,Gr w wr->∀(k:Nat)(l:List Int),i.mem[k]?=some l->∃bm om bl ol cl,vm=.slice (some ⟨bm,om,none⟩) i.mem.length (match vm with|.slice _ _ c=>c|_=>0)/\wr.cell? ⟨bm,om+k,none⟩=some (.slice (some ⟨bl,ol,none⟩) l.length cl)/\∀F,Gr wr F->∀j z,l[j]?=some z->F.cell? ⟨bl,ol+j,none⟩=some (.int .i64 z)):=fun wr g k l hl=>by obtain⟨A,c,rfl,-,-,h3⟩:=hm;obtain⟨b,o,rfl,hb,h4⟩:=h3 (by have:=(yq.1 hl).1;omega);obtain⟨u,U,Al,cl,rfl,-,-,h5⟩:=h4 k l hl;obtain⟨bl,ol,rfl,cP,h6⟩:=h5 (ar.out k l hl).1;exact⟨b,o,bl,ol,cl,rfl,(g.cell _ _ (by omega)).trans U,fun F W j z hz=>((g.trans W).cell _ _ (by omega)).trans (h6 j z hz)⟩
 have aR:Hid (i.mem.map (fun r=>(r.length:Int))=f.slots):=ap
 have bA:Hid (i.mem.length<=1000):=by show _<=_;have D:=congrArg List.length ap;rw[vS]at D;omega
 have aP:Hid (i.args.length<=Ref.count f):=by show _<=_;omega
 have bo:Hid (∀wr,Gr w wr->∀k x,i.args[k]?=some x->∃b o,va=.slice (some ⟨b,o,none⟩) i.args.length (match va with|.slice _ _ c=>c|_=>0)/\wr.cell? ⟨b,o+k,none⟩=some (.int .u32 x)):=fun wr g k x hx=>by obtain⟨A,c,rfl,-,-,h3⟩:=HA.out;obtain⟨b,o,rfl,hb,h4⟩:=h3 (by have:=(yq.1 hx).1;omega);exact⟨b,o,rfl,(g.cell _ _ (by omega)).trans (h4 k x hx)⟩
 have HM:=dJ hm;have HV:=dJ hf;have HI:=dJ hi;have bp:=dJ hB0;have C:=dJ hN;have bP:W0.cell? ⟨N,0,none⟩=some (.slice Ap f.params.length cp):=vX _ _ 0 _ _ _ q0
 have I:∀(i:Nat)(v:Value),(#[Value.slice Ap f.params.length cp,.int .i64 f.ret,.slice As f.slots.length cs,.slice (some ⟨bb,ob,none⟩) f.blocks.length cb]:Array Value)[i]?=some v->W1.cell? ⟨N,i,none⟩=some v/\W2.cell? ⟨N,i,none⟩=some v:=fun i v hv =>
  ⟨(vX _ _ i _ _ _ ((gA.heap _ (by omega)).trans q0)).trans hv,(vX _ _ i _ _ _ aS.out.fb).trans hv⟩
 obtain⟨x0,y0⟩:=I 0 _ rfl;obtain⟨x1,y1⟩:=I 1 _ rfl;obtain⟨x2,y2⟩:=I 2 _ rfl;obtain⟨x3,y3⟩:=I 3 _ rfl;obtain⟨Aa,ca,rfl,-,-,-⟩:=ha;obtain⟨ad,aa,rfl,-,-,-⟩:=hm;clear b3 b4 hi hv ct b7 av hN gA gB gW q0 q1 b0 ap bP I ck hf;rw[<-C.out]at s0 s1 s2 x0 x1 x2 x3 y0 y1 y2 y3
 go_enter func47, ntmps47
 go_wp2
 go_loopw [8,25] (fun s8 aK wr=>∃(k:Nat)(A:Option Addr)(c:Nat),k<=f.blocks.length/\aK=.int .i64 (k:Int)/\s8=.int .i64 (Ref.number f k:Nat) /\
     Hid (SS N w wr (.slice Ap f.params.length cp) f.ret (.slice As f.slots.length cs) (.slice (some ⟨bb,ob,none⟩) f.blocks.length cb) (.iface T p) (.slice Aa i.args.length ca) (.slice ad i.mem.length aa) (.slice none 0 0) (.slice none 0 0) (.slice A k c) (.slice none 0 0)) /\
     Hid (Own1 (N+3) 3 wr (.slice A k c) (frL f k))) (fun _ aK _=>f.blocks.length-(intOf aK).toNat)
 case atStart=>exact⟨0,none,0,vU _,rfl,by (congr 1),aS,Own1.nil _ _ _⟩
 case round =>
  obtain⟨k,A,c,hk,rfl,rfl,d,m⟩:=hrel;by_cases Y:k<f.blocks.length
  ·obtain⟨l,hl⟩:∃l,f.blocks[k]?=some l:=⟨_,vu Y⟩;obtain⟨Al,cl,b8⟩:=bq.out wr d.out.gr k l hl;obtain⟨n1,n2⟩:=bC.out k l hl;have c7:wr.cell? ⟨w.heap.size+2,7,none⟩=some (.slice A k c):=by rw[C.out];exact vX _ _ 7 _ _ _ d.out.st
   have bB:Hid ((Ref.number f (k+1):Nat)=Ref.number f k+l.length):=n1;obtain⟨q,H⟩:=xJ (Ref.number f k);have HQ:=dJ H;rw[H]at n2;rw[H];clear hl n1 H;go_wp2_with (at_builtin;refine lB (n:=k) (v:=.slice A k c) underlying22 cc cy cz cA rfl (by omega) rfl (.tmp 33) (.tmp 35) rfl (lU f k) rfl m.out rfl rfl (by omega) (by have:=d.out.lt;omega) ?_;intro J K Q ab aj af;have ao:=dJ (d.out.push m.out aj ab);have cU:Q.cell? ⟨w.heap.size+2,7,none⟩=some (.slice A k c):=(by rw[C.out];exact vX _ _ 7 _ _ _ ao.out.1.st);have aq:Q.frozen? ⟨w.heap.size+2,7,none⟩=false:=(by rw[C.out];exact vY _ _ 7 _ _ ao.out.1.st);clear ab aj af)
   have bH:Hid (SS N w (Q.setCell ⟨w.heap.size+2,7,none⟩ (.slice J (k+1) K)) (.slice Ap f.params.length cp) f.ret (.slice As f.slots.length cs) (.slice (some ⟨bb,ob,none⟩) f.blocks.length cb) (.iface T p) (.slice Aa i.args.length ca) (.slice ad i.mem.length aa) (.slice none 0 0) (.slice none 0 0) (.slice J (k+1) K) (.slice none 0 0)):=by rw[C.out];exact ao.out.1.put 7 _ rfl
   have bD:Hid (Own1 (N+3) 3 (Q.setCell ⟨w.heap.size+2,7,none⟩ (.slice J (k+1) K)) (.slice J (k+1) K) (frL f (k+1))):=by rw[C.out,rq,HQ.out];exact ao.out.2.1 7
   refine⟨⟨k+1,J,K,by omega,by go_num,by rw[bB.out,HQ.out];go_num,bH,bD⟩,by simp[intOf];omega⟩
  ·obtain rfl:k=f.blocks.length:=by omega
   obtain⟨n,hn⟩:=xJ (Ref.count f);have a8:Ref.number f f.blocks.length=n:=hn;have an:=dJ hn;rw[hn]at ag;rw[a8];clear hn a8 Y hk;obtain⟨Wa,bX⟩:∃Wa,Wa=wr:=⟨_,rfl⟩;subst bX;have bU:=fun T=>ff T n ag;have bF:Hid (Array.replicate n (Value.bool false)=((List.replicate n false).map Value.bool).toArray):=by (show _=_);simp
   have bT:=fun T=>mO T n ag;have bV:N+2<Wa.heap.size:=by have:=d.out.lt;omega
   have a5:Wa.cell? ⟨w.heap.size+2,5,none⟩=some (.slice none 0 0):=by rw[C.out];exact vX _ _ 5 _ _ _ d.out.st
   have a6:Wa.cell? ⟨w.heap.size+2,6,none⟩=some (.slice none 0 0):=by rw[C.out];exact vX _ _ 6 _ _ _ d.out.st
   have z5:Wa.frozen? ⟨w.heap.size+2,5,none⟩=false:=by rw[C.out];exact vY _ _ 5 _ _ d.out.st
   have z6:Wa.frozen? ⟨w.heap.size+2,6,none⟩=false:=by rw[C.out];exact vY _ _ 6 _ _ d.out.st
   have cL:w.heap.size+2<Wa.heap.size:=by rw[C.out];exact bV
   go_wp2
   go_cut [] (fun wx=>∃Bv Bh:Nat,Hid (MK N Wa wx (tZ (.slice Ap f.params.length cp) f.ret (.slice As f.slots.length cs) (.slice (some ⟨bb,ob,none⟩) f.blocks.length cb) (.iface T p) (.slice (some ⟨Bv,0,none⟩) n n) (.slice (some ⟨Bh,0,none⟩) n n) (.slice A f.blocks.length c) (.slice none 0 0)) [(Bv,.cells (dy (List.replicate n Rn.zero)).toArray 37 (0,0)),(Bh,.cells ((List.replicate n false).map Value.bool).toArray 4 (0,0))]))
   case first =>
    go_region_with (fail)
    all_goals go_wp2
    all_goals go_meet
    all_goals rw[bF.out,C.out]
    all_goals first
     | exact⟨Wa.heap.size,Wa.heap.size+1,sG d.out.st _ _ _ _ _ _⟩
     | exact⟨Wa.heap.size+1,Wa.heap.size,(sG d.out.st _ _ _ _ _ _).mono (by intro q H;simp at H ⊢;exact H.symm)⟩
   case rest =>
    obtain⟨Bv,Bh,al⟩:=hcut;obtain⟨Wc,bY⟩:∃Wc,Wc=wc:=⟨_,rfl⟩;subst bY;have ai:=al.out.fr;obtain⟨aH,bj⟩:=al.out.at_ _ (List.mem_cons_self);obtain⟨aE,a3⟩:=al.out.at_ _ (List.mem_cons_of_mem _ (List.mem_cons_self))
    have aY:Hid (SS N w Wc (.slice Ap f.params.length cp) f.ret (.slice As f.slots.length cs) (.slice (some ⟨bb,ob,none⟩) f.blocks.length cb) (.iface T p) (.slice Aa i.args.length ca) (.slice ad i.mem.length aa) (.slice (some ⟨Bv,0,none⟩) n n) (.slice (some ⟨Bh,0,none⟩) n n) (.slice A f.blocks.length c) (.slice none 0 0)):={
      gr:=Gr.below d.out.gr (ai.below (n:=N+2) (fun k hk=>by omega) (by omega)) (by rw[C.out];omega)
      n:=C.out.symm
      fb:=(ai.block _ (by omega) (by omega)).trans d.out.fb
      ib:=(ai.block _ (by omega) (by omega)).trans d.out.ib
      st:=al.out.st}
    have bW:Hid (Own1 (N+3) 3 Wc (.slice A f.blocks.length c) (frL f f.blocks.length)):=dr m.out fun k hk=>ai.block k (dg m.out hk).2.1 (by have:=(dg m.out hk).1;omega);have bS:N+3<=Bv:=by have:Wa.heap.size<=Bv:=bj;omega
    have bR:N+3<=Bh:=by have:Wa.heap.size<=Bh:=a3;omega
    have am:Bv≠Bh:=gs aH aE (by decide);have bL:Hid (Wc.heap[Bv]?=some (.cells (dy (eu Rn.zero (i.args.map Rn.word) n 0)).toArray 37 (0,0))):=by (show _=_);rw[fB];exact aH
    have bu:Hid (Wc.heap[Bh]?=some (.cells ((eu false (i.args.map fun _=>true) n 0).map Value.bool).toArray 4 (0,0))):=by (show _=_);rw[fB];exact aE
    have aZ:i.args.length<=n:=by have:=aP.out;have:=an.out;omega
    have c0:Wc.cell? ⟨w.heap.size+1,0,none⟩=some (.slice Aa i.args.length ca):=by rw[C.out];exact vX _ _ 0 _ _ _ aY.out.ib
    clear al ai aH bj aE a3 d m a5 a6 z5 z6 bU bT;go_wp2
    go_loopw [57] (fun aL wr=>∃k:Nat,k<=i.args.length/\aL=.int .i64 (k:Int) /\
        Hid (SS N w wr (.slice Ap f.params.length cp) f.ret (.slice As f.slots.length cs) (.slice (some ⟨bb,ob,none⟩) f.blocks.length cb) (.iface T p) (.slice Aa i.args.length ca) (.slice ad i.mem.length aa) (.slice (some ⟨Bv,0,none⟩) n n) (.slice (some ⟨Bh,0,none⟩) n n) (.slice A f.blocks.length c) (.slice none 0 0)) /\
        Hid (Own1 (N+3) 3 wr (.slice A f.blocks.length c) (frL f f.blocks.length))/\Hid (wr.heap[Bv]?=some (.cells (dy (eu Rn.zero (i.args.map Rn.word) n k)).toArray 37 (0,0))) /\
        Hid (wr.heap[Bh]?=some (.cells ((eu false (i.args.map fun _=>true) n k).map Value.bool).toArray 4 (0,0)))) (fun aL _=>i.args.length-(intOf aL).toNat)
    case atStart=>exact⟨0,vU _,rfl,aY,bW,bL,bu⟩
    case round =>
     obtain⟨k,hk,rfl,d,m,hv,hh⟩:=hrel;by_cases Y:k<i.args.length
     ·obtain⟨x,hx⟩:∃x,i.args[k]?=some x:=⟨_,vu Y⟩;obtain⟨ba,oa,aI,cQ⟩:=bo.out wr d.out.gr k x hx;injection aI with aI _ _;subst aI;have c5:wr.cell? ⟨w.heap.size+2,5,none⟩=some (.slice (some ⟨Bv,0,none⟩) n n):=by rw[C.out];exact vX _ _ 5 _ _ _ d.out.st
      have c6:wr.cell? ⟨w.heap.size+2,6,none⟩=some (.slice (some ⟨Bh,0,none⟩) n n):=by rw[C.out];exact vX _ _ 6 _ _ _ d.out.st
      have a4:k<n:=by omega
      obtain⟨y,hy⟩:∃y,(eu Rn.zero (i.args.map Rn.word) n k)[k]?=some y:=⟨_,vu (by rw[fo _ _ _ _ (by simp;omega) (by simp;omega)];exact a4)⟩;obtain⟨z,hz⟩:∃z,(eu false (i.args.map fun _=>true) n k)[k]?=some z:=⟨_,vu (by rw[fo _ _ _ _ (by simp;omega) (by simp;omega)];exact a4)⟩;obtain⟨aq,aN,aO⟩:=dZ _ _ _ hy;rw[Nat.mul_comm]at aq aN aO;have d0:wr.cell? ⟨Bv,k*3,none⟩=some (.bool y.p):=(vX _ _ _ _ _ _ hv.out).trans (by simpa using aq);have d1:wr.cell? ⟨Bv,k*3+1,none⟩=some (.int .i64 y.s):=(vX _ _ _ _ _ _ hv.out).trans (by simpa using aN);have d2:wr.cell? ⟨Bv,k*3+2,none⟩=some (.int .u32 y.n):=(vX _ _ _ _ _ _ hv.out).trans (by simpa using aO);have e0:wr.cell? ⟨Bh,k,none⟩=some (.bool z):=(vX _ _ _ _ _ _ hh.out).trans (by simp[hz]);have f0:wr.frozen? ⟨Bv,k*3,none⟩=false:=vY _ _ _ _ _ hv.out;have f1:wr.frozen? ⟨Bv,k*3+1,none⟩=false:=vY _ _ _ _ _ hv.out;have f2:wr.frozen? ⟨Bv,k*3+2,none⟩=false:=vY _ _ _ _ _ hv.out;have f3:wr.frozen? ⟨Bh,k,none⟩=false:=vY _ _ _ _ _ hh.out;have n1:w.heap.size+2≠Bv:=by rw[C.out];omega
      have n2:w.heap.size+2≠Bh:=by rw[C.out];omega
      have bg:=cX (i:=k*3) (.bool false) hv.out;have bh:=cX (i:=k*3+1) (.int .i64 0) bg;have bi:=cX (i:=k*3+2) (.int .u32 x) bh;have er:=gp (eu Rn.zero (i.args.map Rn.word) n k) k (Rn.word x);rw[fA Rn.zero (i.args.map Rn.word) n k (by simp;omega) (Rn.word x) (by rw[vH,hx];rfl)]at er;have ay:=jY (eu false (i.args.map fun _=>true) n k) k;rw[fA false (i.args.map fun _=>true) n k (by simp;omega) true (by rw[vH,hx];rfl)]at ay;obtain⟨W9,aD⟩:=xJ (((((wr.setCell ⟨Bv,k*3,none⟩ (.bool false)).setCell ⟨Bv,k*3+1,none⟩ (.int .i64 0)).setCell ⟨Bv,k*3+2,none⟩ (.int .u32 x)).setCell ⟨Bh,k,none⟩ (.bool true)))
      have az:FrS (fun q=>q=Bv\/q=Bh) wr W9:=by rw[<-aD];exact((((FrS.refl (fun q=>q=Bv\/q=Bh) wr).setCell (p:=⟨Bv,k*3,none⟩) (.inl rfl) _).setCell (p:=⟨Bv,k*3+1,none⟩) (.inl rfl) _).setCell (p:=⟨Bv,k*3+2,none⟩) (.inl rfl) _).setCell (p:=⟨Bh,k,none⟩) (.inr rfl) _
      have bM:Hid (W9.drew.heap[Bv]?=some (.cells (dy (eu Rn.zero (i.args.map Rn.word) n (k+1))).toArray 37 (0,0))):=by show W9.heap[Bv]?=_;rw[<-er,<-aD];exact(wk _ _ _ _ am).trans bi
      have bv:Hid (W9.drew.heap[Bh]?=some (.cells ((eu false (i.args.map fun _=>true) n (k+1)).map Value.bool).toArray 4 (0,0))):=by show W9.heap[Bh]?=_;rw[<-ay,<-aD];exact cX (i:=k) (.bool true) ((wk _ _ _ _ am.symm).trans ((wk _ _ _ _ am.symm).trans ((wk _ _ _ _ am.symm).trans hh.out)))
      have bI:=dJ ((d.out.keep az (fun q H=>H.elim (fun e=>by omega) (fun e=>by omega))).grow ((wL W9).drew))
      have bE:Hid (Own1 (N+3) 3 W9.drew (.slice A f.blocks.length c) (frL f f.blocks.length)):=dr m.out fun q H=>az.drew.block q (dg m.out H).2.1 (by
        obtain⟨-,-,B,ht⟩:=dg m.out H
        rintro (e|e)
        · subst e;exact gs ht hv.out (by decide) rfl
        · subst e;exact gs ht hh.out (by decide) rfl)
      clear hx hy hz aq aN aO bg bh bi er ay d m hv hh az;go_wp2
      go_region_with (fail)
      all_goals go_wp2
      all_goals exact⟨⟨k+1,by omega,by go_num,bI,bE,bM,bv⟩,by simp[intOf];omega⟩
     ·obtain rfl:k=i.args.length:=by omega
      obtain⟨We,bZ⟩:∃We,We=wr:=⟨_,rfl⟩;subst bZ
      have bN:Hid (We.heap[Bv]?=some (.cells (dy (Rn.start f i).vals).toArray 37 (0,0))):=by show _=_;rw[hv.out];unfold eu Rn.start;rw[an.out,vO (by simp)]
      have bx:Hid (We.heap[Bh]?=some (.cells ((Rn.start f i).had.map Value.bool).toArray 4 (0,0))):=by show _=_;rw[hh.out];unfold eu Rn.start;rw[an.out,vO (by simp)]
      have c1:We.cell? ⟨w.heap.size+1,1,none⟩=some (.slice ad i.mem.length aa):=by rw[C.out];exact vX _ _ 1 _ _ _ d.out.ib
      clear hv hh Y hk aZ;go_wp2
      go_loopw [80] (fun aM wr=>∃(k:Nat)(us:List (Nat × Nat))(A8:Option Addr)(c8:Nat),k<=i.mem.length/\aM=.int .i64 (k:Int)/\us.length=k /\
          Hid (SS N w wr (.slice Ap f.params.length cp) f.ret (.slice As f.slots.length cs) (.slice (some ⟨bb,ob,none⟩) f.blocks.length cb) (.iface T p) (.slice Aa i.args.length ca) (.slice ad i.mem.length aa) (.slice (some ⟨Bv,0,none⟩) n n) (.slice (some ⟨Bh,0,none⟩) n n) (.slice A f.blocks.length c) (.slice A8 k c8)) /\
          Hid (Own1 (N+3) 3 wr (.slice A f.blocks.length c) (frL f f.blocks.length))/\Hid (wr.heap[Bv]?=some (.cells (dy (Rn.start f i).vals).toArray 37 (0,0))) /\
          Hid (wr.heap[Bh]?=some (.cells ((Rn.start f i).had.map Value.bool).toArray 4 (0,0))) /\
          Hid (MU N wr us i.mem (.slice A f.blocks.length c))/\Hid (Own1 (N+3) 22 wr (.slice A8 k c8) (usV us i.mem))) (fun aM _=>i.mem.length-(intOf aM).toNat)
      case atStart=>exact⟨0,[],none,0,vU _,rfl,rfl,d,m,bN,bx,MU.nil _ _ _ _,Own1.nil _ _ _⟩
      case round =>
       obtain⟨k,us,A8,c8,hk,rfl,M,d,m,hv,hh,G,O⟩:=hrel;by_cases Y:k<i.mem.length
       ·obtain⟨l,hl⟩:∃l,i.mem[k]?=some l:=⟨_,vu Y⟩;obtain⟨bm,om,bl,ol,cl,aJ,cR,a1⟩:=bz.out wr d.out.gr k l hl;injection aJ with aJ _ _;subst aJ;obtain⟨l1,l2⟩:=ar.out k l hl
        have CL:Hid (∀F,Gr wr F->Calls prog 85 #[.slice (some ⟨bl,ol,none⟩) l.length cl] F fun e w'=>∃b' E:Nat,e=.returned (.slice (some ⟨b',0,none⟩) l.length E)/\(F.heap.size<=b'/\l.length<=E/\E<=9223372036854775807/\∃B:Array Value,w'.heap[b']?=some (.cells B 3 (0,0))/\∀(i:Nat)(z:Int),l[i]?=some z->B[i]?=some (.int .i64 z))/\Gr F w'):=fun F W=>by
         refine(Tryz.slices_Clone_int bl ol l.length cl l F (vV _) (by omega) (fun j X=>by
           rw[vA,vu X]
           exact a1 F W j _ (vu X))).mono ?_
         rintro e w' ⟨v',rfl,ho,ci,a0⟩;obtain⟨o1,o2⟩:=ho;rcases o2 with ⟨rfl,-⟩|⟨g,E,B,rfl,hg,hc,h3,h4,h5,h6⟩
         ·exact absurd rfl ci
         ·refine⟨g,E,rfl,⟨hg,h3,by unfold maxLen at h4;omega,B,hc,fun q z hz=>?_⟩,a0⟩;have H:=(yq.1 hz).1;have h7:=congrArg (fun r=>r[q]?) h6;simp only[vL,vH,wg,hz,Option.map_some,Nat.mul_one,wa H]at h7;simpa using h7
        have ac:Hid (∀F,Gr wr F->Own1 (N+3) 22 F (.slice A8 k c8) (usV us i.mem)/\F.cell? ⟨w.heap.size+2,8,none⟩=some (.slice A8 k c8)/\F.frozen? ⟨w.heap.size+2,8,none⟩=false/\N+3<=F.heap.size):=fun F W=>by have D:=d.out.grow W;exact⟨O.out.gr W,by rw[C.out];exact vX _ _ 8 _ _ _ D.st,by rw[C.out];exact vY _ _ 8 _ _ D.st,D.lt⟩
        have aQ:Hid (∀(F Q:World)(bk:Obj)(b' E:Nat)(J:Option Addr)(K:Nat),Gr wr F->(wr.heap.size<=b'/\l.length<=E/\E<=9223372036854775807/\∃B:Array Value,F.heap[b']?=some (.cells B 3 (0,0))/\∀(i:Nat)(z:Int),l[i]?=some z->B[i]?=some (.int .i64 z)) ->
            (F.alloc bk).grownBy Q (Value.slice A8 k c8).ownBlock->Own1 (N+3) 22 Q (.slice J (k+1) K) (usV us i.mem++[.slice (some ⟨b',0,none⟩) l.length E]) ->
            (Q.cell? ⟨w.heap.size+2,8,none⟩=some (.slice A8 k c8)/\Q.frozen? ⟨w.heap.size+2,8,none⟩=false) /\
            SS N w (Q.setCell ⟨w.heap.size+2,8,none⟩ (.slice J (k+1) K)) (.slice Ap f.params.length cp) f.ret (.slice As f.slots.length cs) (.slice (some ⟨bb,ob,none⟩) f.blocks.length cb) (.iface T p) (.slice Aa i.args.length ca) (.slice (some ⟨bm,om,none⟩) i.mem.length aa) (.slice (some ⟨Bv,0,none⟩) n n) (.slice (some ⟨Bh,0,none⟩) n n) (.slice A f.blocks.length c) (.slice J (k+1) K) /\
            Own1 (N+3) 3 (Q.setCell ⟨w.heap.size+2,8,none⟩ (.slice J (k+1) K)) (.slice A f.blocks.length c) (frL f f.blocks.length)/\((Q.setCell ⟨w.heap.size+2,8,none⟩ (.slice J (k+1) K)).heap[Bv]?=some (.cells (dy (Rn.start f i).vals).toArray 37 (0,0))) /\
            ((Q.setCell ⟨w.heap.size+2,8,none⟩ (.slice J (k+1) K)).heap[Bh]?=some (.cells ((Rn.start f i).had.map Value.bool).toArray 4 (0,0))) /\
            MU N (Q.setCell ⟨w.heap.size+2,8,none⟩ (.slice J (k+1) K)) (us++[(b',E)]) i.mem (.slice A f.blocks.length c)/\Own1 (N+3) 22 (Q.setCell ⟨w.heap.size+2,8,none⟩ (.slice J (k+1) K)) (.slice J (k+1) K) (usV (us++[(b',E)]) i.mem)):=by
         intro F Q bk b' E J K W b6 hg ab;rw[C.out];have co:=d.out.grow W;have bc:=O.out.gr W;obtain⟨p1,p2,p3⟩:=co.push bc hg ab;have hF:=p3 8
         have a9:∀{q:Nat} {B:Array Value} {t:TypeId},F.heap[q]?=some (.cells B t (0,0))->t≠22->N+3<=q->¬((Value.slice A8 k c8).ownBlock=some q\/q=N+2):=by
          rintro q B t H ht aX (e|e)
          ·obtain⟨-,-,ae,cq⟩:=dg bc e;exact gs H cq ht rfl
          ·omega
         have Z:∀{q:Nat} {B:Array Value} {t:TypeId},F.heap[q]?=some (.cells B t (0,0))->t≠22->N+3<=q->(Q.setCell ⟨N+2,8,none⟩ (.slice J (k+1) K)).heap[q]?=some (.cells B t (0,0)):=fun H ht aX=>(hF.block _ (cY H) (a9 H ht aX)).trans H;obtain⟨b1,b2,bO,B,aT,b5⟩:=b6;have a7:=d.out.lt;have cG:=W.size;have cH:F.heap.size<=(Q.setCell ⟨N+2,8,none⟩ (.slice J (k+1) K)).heap.size:=hF.size;refine⟨⟨vX _ _ 8 _ _ _ p1.st,vY _ _ 8 _ _ p1.st⟩,p1.put 8 _ rfl,dr m.out fun q H=>?_,Z ((W.heap _ (cY hv.out)).trans hv.out) (by decide) bS,Z ((W.heap _ (cY hh.out)).trans hh.out) (by decide) bR,⟨?_,?_,?_,?_⟩,?_⟩
         ·obtain⟨D,L,ae,h3⟩:=dg m.out H;exact(Z ((W.heap _ L).trans h3) (by decide) D).trans h3.symm
         ·intro j b S l' D L;rcases wh j us.length with X|X
          ·rw[vJ X]at D;obtain⟨r1,r2,r3,ae,r4,r5⟩:=G.out.row j b S l' D L;exact⟨r1,r2,r3,ae,Z ((W.heap _ (cY r4)).trans r4) (by decide) r1,r5⟩
          ·rw[vK X]at D
           obtain rfl:j=us.length:=by
            rcases wh us.length j with q|q
            ·rw[vP (by simp;omega)]at D;cases D
            ·omega
           rw[Nat.sub_self]at D;simp at D;obtain⟨rfl,rfl⟩:=D;rw[M,hl]at L;injection L with L;subst L;exact⟨by omega,b2,bO,B,Z aT (by decide) (by omega),b5⟩
         ·rw[List.map_append,List.nodup_append];refine⟨G.out.apart,by simp,fun a ha b hb=>?_⟩;simp at hb;subst hb;obtain⟨u,U,rfl⟩:=List.mem_map.1 ha;have:=G.out.all u U;omega
         ·intro u U;rcases wl.1 U with U|U
          ·exact G.out.off u U
          ·simp at U;subst U;intro e;have:=(dg m.out e).2.1;dsimp only at this;omega
         ·intro u U;rcases wl.1 U with U|U
          ·have:=G.out.all u U;omega
          ·simp at U;subst U;have:=cY aT;show b'<_;omega
         ·rw[kg us i.mem (b',E) l (by rw[M];exact hl)];exact p2 8
        have aG:(usV us i.mem).length=k:=by rw[gF _ _ (by omega),M]
        have bJ:=dJ aG;have mixed:(prog).follows .mixedOrders=true:=by kernel_rfl
        obtain⟨-,o8,z8,-⟩:=ac.out wr (wL _);have Q8:=fun o=>(ac.out (wr.drew.alloc o) (((wL wr).drew).alloc o)).2.1;have be:(us++[((0:Nat),(0:Nat))]).length=k+1:=by simp[M]
        have bK:Hid (∀u:Nat × Nat,(us++[u]).length=k+1):=fun u=>by simp[M]
        have bn:k<1000000:=by have:=HI.out;have h3:=aG;have:i.mem.length<=1000:=bA.out;omega
        clear hl M d m hv hh G O a1 aG be;go_wp2
        go_region_law_o (first|(refine oG rfl (f:=85) (args:=#[.slice (some ⟨bl,ol,none⟩) l.length cl]) (by simp[go_sem,Act.eval,Act.put]) ((CL.out _ ((wL wr).drew)).mono ?_);rintro e F ⟨b',E,rfl,bd,W⟩;refine⟨_,rfl,?_⟩;have G1:Hid (Gr wr F):=((wL wr).drew).trans W;have bG:=dJ bd;have ax:=dJ (ac.out F G1.out);have cT:=ax.out.2.1;have cI:=fun o=>(ac.out (F.alloc o) (G1.out.alloc o)).2.1;clear bd W)|(refine gE (n:=k) (v:=.slice A8 k c8) underlying27 cd cu cv cw rfl (by omega) rfl (.tmp 88) (.tmp 91) rfl bJ.out rfl ax.out.1 rfl rfl (by omega) ax.out.2.2.2 ?_;intro J K Q ab aj af;have aw:=dJ (aQ.out F Q _ b' E J K G1.out bG.out aj ab);have cV:=aw.out.1.1;have cW:=aw.out.1.2;clear ab aj af))
        all_goals go_wp2
        all_goals
         obtain⟨-,j1,j2,j3,j4,j5,j6⟩:=aw.out;exact⟨⟨k+1,us++[(b',E)],J,K,by omega,by go_num,bK.out _,j1,j2,j3,j4,j5,j6⟩,by simp[intOf];omega⟩
       ·obtain rfl:k=i.mem.length:=by omega
        have a2:∃c9:Cfg,c9.n₀=B0/\c9.f=f/\c9.ch=.iface T p/\c9.Bs=w.heap.size+2/\PS c9 wr (Rn.start f i) 0 (-1) (.slice none 0 0)/\(∀k,Kept c9 k->w.heap.size<=k)/\c9.Bm<wr.heap.size:=by
         have a7:=d.out.lt;have cK:=C.out;have cB:B0<=N:=bp.out;obtain⟨bf,bQ,cO,cF,b9⟩:=dz (by have:=m.out;unfold Own1 at this;rw[lU]at this;exact this) rfl (by omega:0<f.blocks.length);subst bQ;obtain⟨-,cn⟩:=id m.out;have cE:N+3<=bf:=(dg m.out (k:=bf) rfl).1;obtain⟨aU,ah⟩:=(dg m.out (k:=bf) rfl).2.2
         have au:f.blocks.length<=c/\c<=9223372036854775807:=by
          rcases cn with ⟨e,-⟩|⟨g,E,B,e,-,-,D,L,-⟩
          ·cases e
          ·injection e with _ e1 e2;unfold maxLen at L;rw[lU]at D;omega
         have cj:i.mem.length<=c8/\c8<=9223372036854775807:=by
          obtain⟨-,hr⟩:=id O.out;rcases hr with ⟨e,h0⟩|⟨g,E,B,e,-,-,D,L,-⟩
          ·injection e with _ e1 e2;omega
          ·injection e with _ e1 e2;unfold maxLen at L;rw[gF _ _ (by omega),M]at D;omega
         obtain⟨Bm,cC,aV,aW⟩:∃Bm:Nat,N+2<=Bm/\Bm<wr.heap.size/\(0<us.length->A8=some ⟨Bm,0,none⟩/\∃B:Array Value,wr.heap[Bm]?=some (.cells B 22 (0,0))/\∀j v,(usV us i.mem)[j]?=some v->B[j]?=some v):=by
          by_cases h0:0<us.length
          ·obtain⟨-,hr⟩:=id O.out;rcases hr with ⟨e,D⟩|⟨g,E,B,e,D,L,-,-,-,h3⟩
           ·rw[gF _ _ (by omega)]at D;omega
           ·injection e with e1 _ _;refine⟨g,by omega,cY L,fun _=>⟨e1,B,L,fun j v X=>?_⟩⟩;rw[<-h3,vL]at X;split at X
            ·simpa using X
            ·cases X
          ·exact⟨N+2,vV _,by omega,fun q=>absurd q h0⟩
         have cJ:us.length=0->A8=none\/True:=fun _=>.inr trivial;have cS:Bv≠Bh:=am;refine⟨{n₀:=B0,f:=f,vp:=.slice Ap f.params.length cp,vs:=.slice As f.slots.length cs,vb:=.slice (some ⟨bb,ob,none⟩) f.blocks.length cb,ch:=.iface T p,Bf:=bf,cf:=c,Am:=A8,Bm:=Bm,cm:=c8,us:=us,Bs:=N+2,Bv:=Bv,Bh:=Bh},rfl,rfl,rfl,by show N+2=_;omega,?_,?_,aV⟩
         ·exact {
             st:=by
               have D:=d.out.st
               have e1:(Rn.start f i).vals.length=n:=by
                 have:=aP.out
                 have:=an.out
                 unfold Rn.start;simp;omega
               rw[e1]
               show wr.heap[N+2]?=_
               rw[D]
               unfold tZ oE Cfg.first Cfg.mv
               dsimp only
               rw[M];rfl
             vals:=hv.out
             had:=hh.out
             hlen:=by unfold Rn.start;simp
             mem:=⟨by show i.mem.length=us.length;omega,fun j b S l' D L=>by
               obtain⟨r1,r2,r3,r4⟩:=G.out.row j b S l' D L
               exact⟨r2,r3,r4⟩⟩
             slots:=⟨by show us.length<=c8;omega,cj.2,fun ce=>by
               obtain⟨q1,B,q2,q3⟩:=aW ce
               refine⟨q1,B,q2,fun j b S z D L=>q3 j _ ?_⟩
               have hz:i.mem[j]?.map (fun r=>(r.length:Int))=some z:=by rw[<-vH,aR.out];exact L
               obtain⟨l',ak,cx⟩:=Option.map_eq_some_iff.1 hz
               unfold usV
               rw[List.getElem?_zipWith,D,ak,<-cx]
               rfl⟩
             fn:=bs.out.below (Below.mono d.out.gr (by omega))
             first:=⟨au.1,au.2,aU,ah,fun j X=>by
               have aF:j<f.blocks.length:=X
               have D:=b9 j (by omega)
               rw[vX _ _ j _ _ _ ah]at D
               rw[D]
               unfold frL
               rw[vH,List.getElem?_range aF];rfl⟩
             old:=⟨by show B0<=N+2;omega,by show B0<=Bv;omega,by show B0<=Bh;omega,by show B0<=bf;omega,by show B0<=Bm;omega,fun j b S D=>by
               have cg:=vz D
               have X:=(yq.1 D).1
               obtain⟨l',ak⟩:∃l',i.mem[j]?=some l':=⟨_,vu (by have:us.length=i.mem.length:=M;have aF:j<us.length:=X;omega)⟩
               have r1:=(G.out.row j b S l' D ak).1
               refine⟨by show B0<=b;omega,fun e=>?_⟩
               have e':b=bf:=e
               exact G.out.off (b,S) cg (by rw[e'];rfl)⟩
             apart:=G.out.apart}
         ·intro q H;rcases H with (e|e|e|⟨j,S,D⟩)|e|e
          ·have e':q=N+2:=e;omega
          ·have e':q=Bv:=e;omega
          ·have e':q=Bh:=e;omega
          ·have X:=(yq.1 D).1;obtain⟨l',ak⟩:∃l',i.mem[j]?=some l':=⟨_,vu (by have:us.length=i.mem.length:=M;have aF:j<us.length:=X;omega)⟩;have r1:=(G.out.row j q S l' D ak).1;omega
          ·have e':q=bf:=e;omega
          ·have e':q=Bm:=e;omega
        obtain⟨c9,e1,e2,e3,e4,e5,e6,e7⟩:=a2;have R:=dJ (And.intro e5 (And.intro d.out.gr (And.intro e6 e7)));have br:=dJ e4;clear e5 e6 e7 d m hv hh G O Y hk;go_wp2;go_ret;exact⟨c9,e1,e2,e3,by (show _=Ending.returned (.pointer (some ⟨c9.Bs,0,none⟩)));rw[br.out];rfl,R.out.1,R.out.2.1,R.out.2.2.1,R.out.2.2.2⟩
theorem tJ (b:Int)(w:World):Calls prog 41 #[.int .i64 b] w (RT (.bool (decide (b < -1) || decide (255<b))) w):=by
 by_cases d:b < -1
 ·go_enter func41, ntmps41
  go_wp2;go_ret;exact⟨cZ (by simp[d]),rfl⟩
 ·by_cases g:255<b
  all_goals
   go_enter func41, ntmps41
   go_wp2;go_ret;exact⟨cZ (by simp[d,g]),rfl⟩
theorem ub {B:Nat}{w:World}{v:Value}{zs:List Int}(hv:IntsAt B w v zs):Calls prog 40 #[v,.func (.func 41) #[] #[]] w (RG (.bool (zs.any fun b=>decide (b < -1) || decide (255<b))) w):=by
 obtain⟨A,c,rfl,r,t,m⟩:=hv;rcases Nat.eq_zero_or_pos zs.length with l|d
 ·obtain rfl:=wu l;exact(wK (α:=Int) A c _ w).mono fun e w' h=>⟨h.1,by rw[h.2];exact wL _⟩
 ·obtain⟨b,o,rfl,u,p⟩:=m d
  refine(wJ (fun z:Int=>Value.int .i64 z) (fun b=>decide (b < -1) || decide (255<b)) 41 #[] (fun args w=>by kernel_rfl) b o zs.length c zs w (fun W x _=>(tJ x W).mono fun e w' h=>⟨h.1,0,by rw[h.2];rfl⟩) (vV _) (by omega) (fun j g=>by rw[getElem!_pos zs j g];exact p j _ (vu g))).mono ?_
  rintro e w' ⟨rfl,q,rfl⟩;rw[wg];exact⟨rfl,(wL w).drewN q⟩
namespace Rn
theorem zip_any_at {α β:Type}{l:List α}{m:List β}{p:α × β->Bool}{j:Nat}{a:α}{b:β}(h1:l[j]?=some a)(h2:m[j]?=some b)(hp:p (a,b)=true):(l.zip m).any p=true:=by rw[wC];exact⟨(a,b),vz (List.getElem?_zip_eq_some.2 ⟨h1,h2⟩),hp⟩
theorem zip_any_none {α β:Type}{l:List α}{m:List β}{p:α × β->Bool}(h:∀(j:Nat)(a:α)(b:β),l[j]?=some a->m[j]?=some b->p (a,b)=false):(l.zip m).any p=false:=by rw[List.any_eq_false];rintro⟨a,b⟩ r;obtain⟨j,q⟩:=List.getElem?_of_mem r;obtain⟨d,g⟩:=List.getElem?_zip_eq_some.1 q;rw[h j a b d g];exact Bool.false_ne_true
end Rn
theorem eY {w:World}{f:Fn}{vf:Value}(hfn:FnAt w.heap.size w vf f)(hnice:jF f){i:Rn.Inp}{va vm:Value}(ha:U32At w.heap.size w va i.args)(hm:TabAt w.heap.size w vm i.mem) :
  Calls prog 13 #[vf,.agg #[va,vm]] w (RG (.int .i64 (Rn.validInput f i)) w):=by
 obtain⟨vp,vs,vb,rfl,hp,hs,Q⟩:=hfn;obtain⟨W,hW⟩:=xJ ((w.alloc (.cells #[vp,.int .i64 f.ret,vs,vb] 25)).alloc (.cells #[va,vm] 29));have D:Gr w W:=by rw[<-hW];exact((wL w).alloc _).alloc _
 have al:(w.alloc (.cells #[vp,.int .i64 f.ret,vs,vb] 25)).heap.size=w.heap.size+1:=by simp
 have T:W.heap[w.heap.size]?=some (.cells #[vp,.int .i64 f.ret,vs,vb] 25 (0,0)):=by rw[<-hW];exact(((wL (w.alloc (.cells #[vp,.int .i64 f.ret,vs,vb] 25))).alloc _).heap _ (by simp)).trans (heap_alloc_new w _)
 have X:W.heap[w.heap.size+1]?=some (.cells #[va,vm] 29 (0,0)):=by rw[<-hW,<-al];exact heap_alloc_new _ _
 have CV:=dJ (kR (.agg #[vp,.int .i64 f.ret,vs,vb]) f W ⟨vp,vs,vb,rfl,(hp.below D).mono D.size,(hs.below D).mono D.size,(Q.below D).mono D.size⟩ hnice);have HF:Hid (∀wr,Gr W wr->wr.heap[w.heap.size]?=some (.cells #[vp,.int .i64 f.ret,vs,vb] 25 (0,0))/\wr.heap[w.heap.size+1]?=some (.cells #[va,vm] 29 (0,0))):=fun wr g=>⟨(g.heap _ (cY T)).trans T,(g.heap _ (cY X)).trans X⟩;obtain⟨Ap,cp,rfl,p1,p2,p3⟩:=hp;obtain⟨As,cs,rfl,s1,s2,s3⟩:=hs;obtain⟨Ab,cb,rfl,-,-,-⟩:=id Q;obtain⟨Aa,ca,rfl,a1,a2,a3⟩:=ha;obtain⟨Am,cm,rfl,m1,m2,m3⟩:=hm
 have ax:Hid (∀wr,Gr W wr->∀j z,f.params[j]?=some z->∃b o,Ap=some ⟨b,o,none⟩/\wr.cell? ⟨b,o+j,none⟩=some (.int .i64 z)):=fun wr g j z p=>by obtain⟨b,o,e,Q,O⟩:=p3 (by have:=(yq.1 p).1;omega);exact⟨b,o,e,((D.trans g).cell _ _ (by omega)).trans (O j z p)⟩
 have ay:Hid (∀wr,Gr W wr->∀j z,f.slots[j]?=some z->∃b o,As=some ⟨b,o,none⟩/\wr.cell? ⟨b,o+j,none⟩=some (.int .i64 z)):=fun wr g j z p=>by obtain⟨b,o,e,Q,O⟩:=s3 (by have:=(yq.1 p).1;omega);exact⟨b,o,e,((D.trans g).cell _ _ (by omega)).trans (O j z p)⟩
 have ap:Hid (∀wr,Gr W wr->∀j z,i.args[j]?=some z->∃b o,Aa=some ⟨b,o,none⟩/\wr.cell? ⟨b,o+j,none⟩=some (.int .u32 z)):=fun wr g j z p=>by obtain⟨b,o,e,Q,O⟩:=a3 (by have:=(yq.1 p).1;omega);exact⟨b,o,e,((D.trans g).cell _ _ (by omega)).trans (O j z p)⟩
 have ar:Hid (∀wr,Gr W wr->∀j l,i.mem[j]?=some l->∃b o Al cl,Am=some ⟨b,o,none⟩/\wr.cell? ⟨b,o+j,none⟩=some (.slice Al l.length cl)/\l.length<=17592186044416/\Calls prog 40 #[.slice Al l.length cl,.func (.func 41) #[] #[]] wr (RG (.bool (l.any fun b=>decide (b < -1) || decide (255<b))) wr)):=fun wr g j l hl=>by obtain⟨b,o,e,Q,O⟩:=m3 (by have:=(yq.1 hl).1;omega);obtain⟨u,hu,am⟩:=O j l hl;have an:=am;obtain⟨Al,cl,rfl,-,h6,-⟩:=an;exact⟨b,o,Al,cl,e,((D.trans g).cell _ _ (by omega)).trans hu,h6,ub (am.below (D.trans g))⟩
 have B:=dJ D;obtain⟨R,hR⟩:=xJ (Rn.validInput f i);rw[hR];unfold Rn.validInput at hR;have HR:=dJ hR;obtain⟨V,hV⟩:=xJ (Ref.validate f);rw[hV]at CV HR;have HV:=dJ hV
 have S:∀wr,Gr W wr->C6 wr w.heap.size (.slice Ap f.params.length cp) (.int .i64 f.ret) (.slice As f.slots.length cs) (.slice Ab f.blocks.length cb) (.slice Aa i.args.length ca) (.slice Am i.mem.length cm):=fun wr g=>by obtain⟨q1,q2⟩:=HF.out wr g;exact⟨vX _ _ 0 _ _ _ q1,vX _ _ 1 _ _ _ q1,vX _ _ 2 _ _ _ q1,vX _ _ 3 _ _ _ q1,vX _ _ 0 _ _ _ q2,vX _ _ 1 _ _ _ q2⟩
 have HC:=dJ S;obtain⟨k0,k1,k2,k3,k4,k5⟩:=S W (wL _);clear D T X p3 s3 a3 m3 hR hV S al Q;by_cases ao:V=0
 ·subst ao
  have HW:Hid (∀j z,f.params[j]?=some z->Wd.Wid z):=fun j z p=>by have hv:Ref.Val f:=(Ref.val_iff f).1 HV.out;exact Rn.wid_of (vT.1 hv.head.1 z (vz p))
  by_cases d:i.args.length=f.params.length
  ·by_cases A:i.mem.length=f.slots.length
   ·have ae:Hid ((if (f.params.zip i.args).any (fun q=>decide (Wd.sz q.1<=q.2))=true then 1 else if (f.slots.zip i.mem).any (fun q=>decide ((q.2.length:Int)≠q.1) || q.2.any (fun b=>decide (b < -1) || decide (255<b)))=true then 1 else 0)=R):=by
     have:=HR.out;rw[wb (by decide),wb (by omega)]at this;exact this
    obtain⟨n,Y⟩:=xJ f.params.length;obtain⟨m,hm⟩:=xJ f.slots.length;rw[Y]at d p1 p2 k0;rw[hm]at A s1 s2 k2;rw[d]at a1 a2 k4;rw[A]at m1 m2 k5
    have ab:Hid (∀wr,Gr W wr->wr.cell? ⟨w.heap.size,0,none⟩=some (.slice Ap n cp)/\wr.cell? ⟨w.heap.size,2,none⟩=some (.slice As m cs)/\wr.cell? ⟨w.heap.size+1,0,none⟩=some (.slice Aa n ca)/\wr.cell? ⟨w.heap.size+1,1,none⟩=some (.slice Am m cm)):=fun wr g=>by obtain⟨q0,q1,q2,q3,q4,q5⟩:=HC.out wr g;rw[Y]at q0;rw[hm]at q2;rw[d]at q4;rw[A]at q5;exact⟨q0,q2,q4,q5⟩
    have ac:=dJ Y;have ad:=dJ hm;have au:=dJ d;have av:=dJ A;rw[Y,hm,d,A]at hW;rw[Y,hm]at CV;rw[Y,hm,d,A];clear d A Y hm
    go_enter func13, ntmps13
    go_wp2_with (go_at_call 38;refine CV.out.mono ?_;rintro e L ⟨rfl,K⟩;obtain⟨j0,j2,j4,j5⟩:=ab.out L K;have t:=dJ K)
    have aw:Hid (∀k z x,f.params[k]?=some z->i.args[k]?=some x->Wd.sz z<=x->R=1):=fun k z x r y h3=>by rw[<-ae.out,wa (Rn.zip_any_at r y (by simpa using h3))]
    go_loop [36] (fun Z=>∃k:Nat,k<=n/\Z=.int .i64 (k:Int)/\Hid (∀j z x,j<k->f.params[j]?=some z->i.args[j]?=some x->x<Wd.sz z)) (fun Z=>n-(intOf Z).toNat)
    case atStart=>exact⟨0,vU _,rfl,(fun j z x h=>absurd h (Nat.not_lt_zero _))⟩
    case round =>
     obtain⟨k,hk,rfl,F⟩:=hrel;by_cases ak:k<n
     ·obtain⟨z,p⟩:∃z,f.params[k]?=some z:=⟨_,vu (by have:=ac.out;omega)⟩;obtain⟨x,hx⟩:∃x,i.args[k]?=some x:=⟨_,vu (by have:=au.out;omega)⟩;obtain⟨bp,op,rfl,cz⟩:=ax.out L t.out k z p;obtain⟨ba,oa,rfl,cx⟩:=ap.out L t.out k x hx;have CM:=dJ (kn z L (HW.out k z p));have M:=dJ (aw.out k z x p hx)
      have H:Hid (x<Wd.sz z->∀j z x,j<k+1->f.params[j]?=some z->i.args[j]?=some x->x<Wd.sz z):=fun h j z' x' hj r y=>by
       rcases wh j k with q|q
       ·exact F.out j z' x' q r y
       ·obtain rfl:j=k:=by omega
        rw[p]at r;rw[hx]at y;injection r with r;injection y with y;subst r;subst y;exact h
      obtain⟨s,hs⟩:=xJ (Wd.sz z);rw[hs]at CM M H;clear p hx hs;by_cases ag:s<=x
      ·have C:Hid (R=1):=M.out ag;have az:s-1<x:=by omega
       go_wp2_with (go_at_call 39;refine CM.out.mono ?_;rintro e w2 ⟨rfl,rfl⟩);go_ret;exact⟨de C.out.symm,B.out.trans t.out⟩
      ·have az:¬s-1<x:=by omega
       have I:=dJ (H.out (by omega));go_wp2_with (go_at_call 39;refine CM.out.mono ?_;rintro e w2 ⟨rfl,rfl⟩);go_round;case rel=>exact⟨k+1,by omega,by go_num,I⟩
       case measure=>simp[intOf];omega
     ·obtain rfl:n=k:=by omega
      have af:Hid ((if (f.slots.zip i.mem).any (fun q=>decide ((q.2.length:Int)≠q.1) || q.2.any (fun b=>decide (b < -1) || decide (255<b)))=true then 1 else 0)=R):=by
       show _=_;have h:=ae.out
       rw[Rn.zip_any_none (fun j a b r y=>by
         have hj:=(yq.1 r).1
         have:=F.out j a b (by have:=ac.out;omega) r y
         simpa using this)]at h
       simpa using h
      clear F ak hk;go_wp2
      go_loopw [57] (fun aa wr=>∃k:Nat,k<=m/\aa=.int .i64 (k:Int)/\Hid (Gr W wr)/\Hid (∀j z l,j<k->f.slots[j]?=some z->i.mem[j]?=some l->(decide ((l.length:Int)≠z) || l.any (fun b=>decide (b < -1) || decide (255<b)))=false)) (fun aa _=>m-(intOf aa).toNat)
      case atStart=>exact⟨0,vU _,rfl,t,(fun j z x h=>absurd h (Nat.not_lt_zero _))⟩
      case round =>
       obtain⟨k,hk,rfl,U,F⟩:=hrel;obtain⟨q0,q2,q4,q5⟩:=ab.out wr U.out;by_cases ak:k<m
       ·obtain⟨z,p⟩:∃z,f.slots[k]?=some z:=⟨_,vu (by have:=ad.out;omega)⟩;obtain⟨l,hl⟩:∃l,i.mem[k]?=some l:=⟨_,vu (by have:=av.out;omega)⟩;obtain⟨bs,os,rfl,cz⟩:=ay.out wr U.out k z p;obtain⟨bm,om,Al,cl,rfl,cx,aC,J⟩:=ar.out wr U.out k l hl;have CC:=dJ J
        have G:Hid ((decide ((l.length:Int)≠z) || l.any (fun b=>decide (b < -1) || decide (255<b)))=true->R=1):=fun h=>by rw[<-af.out,wa (Rn.zip_any_at p hl h)]
        have H:Hid ((decide ((l.length:Int)≠z) || l.any (fun b=>decide (b < -1) || decide (255<b)))=false->∀j z l,j<k+1->f.slots[j]?=some z->i.mem[j]?=some l->(decide ((l.length:Int)≠z) || l.any (fun b=>decide (b < -1) || decide (255<b)))=false):=fun h j z' l' hj r y=>by
         rcases wh j k with q|q
         ·exact F.out j z' l' q r y
         ·obtain rfl:j=k:=by omega
          rw[p]at r;rw[hl]at y;injection r with r;injection y with y;subst r;subst y;exact h
        obtain⟨bd,ah⟩:∃bd,l.any (fun b=>decide (b < -1) || decide (255<b))=bd:=⟨_,rfl⟩;rw[ah]at CC G H;clear p hl J ah;by_cases E:(l.length:Int)=z
        ·have ai:((l.length:Int) != z)=false:=by simp[E]
         have aq:=dJ E;clear E
         cases bd with
         | true =>
          have C:Hid (R=1):=G.out (by simp);go_wp2_with (go_at_call 40;refine CC.out.mono ?_;rintro e w2 ⟨rfl,g2⟩);go_ret;exact⟨de C.out.symm,B.out.trans (U.out.trans g2)⟩
         | false =>
          have I:=dJ (H.out (by simp[aq.out]));go_wp2_with (go_at_call 40;refine CC.out.mono ?_;rintro e w2 ⟨rfl,g2⟩;have G2:=dJ (U.out.trans g2));refine⟨⟨k+1,by omega,by go_num,G2,I⟩,by simp[intOf];omega⟩
        ·have ai:((l.length:Int) != z)=true:=by simpa using E
         have C:Hid (R=1):=G.out (by simp[E]);clear E;go_wp2;go_ret;exact⟨de C.out.symm,B.out.trans U.out⟩
       ·obtain rfl:m=k:=by omega
        have C:Hid (R=0):=by
         show _=_
         rw[<-af.out,Rn.zip_any_none (fun j a b r y=>by
           have hj:=(yq.1 r).1
           exact F.out j a b (by have:=ad.out;omega) r y)]
         rfl
        go_wp2;go_ret;exact⟨de C.out.symm,B.out.trans U.out⟩
   ·have C:Hid (R=1):=by show _=_;rw[<-HR.out,wb (by decide),wa (.inr A)]
    have aj:¬((i.mem.length:Int)=(f.slots.length:Int)):=by omega
    have N:(i.args.length:Int)=(f.params.length:Int):=by omega
    have aA:((i.args.length:Int) != (f.params.length:Int))=false:=by simp[d]
    have aB:((i.mem.length:Int) != (f.slots.length:Int))=true:=by simp;omega
    clear d N aj
    go_enter func13, ntmps13
    go_wp2_with (go_at_call 38;refine CV.out.mono ?_;rintro e L ⟨rfl,K⟩;obtain⟨j0,j1,j2,j3,j4,j5⟩:=HC.out L K;have t:=dJ K);go_ret;exact⟨de C.out.symm,B.out.trans t.out⟩
  ·have C:Hid (R=1):=by show _=_;rw[<-HR.out,wb (by decide),wa (.inl d)]
   have N:¬((i.args.length:Int)=(f.params.length:Int)):=by omega
   go_enter func13, ntmps13
   go_wp2_with (go_at_call 38;refine CV.out.mono ?_;rintro e L ⟨rfl,K⟩;obtain⟨j0,j1,j2,j3,j4,j5⟩:=HC.out L K;have t:=dJ K);go_ret;exact⟨de C.out.symm,B.out.trans t.out⟩
 ·have C:Hid (R=V):=by show _=_;rw[<-HR.out,wa ao]
  go_enter func13, ntmps13
  go_wp2_with (go_at_call 38;refine CV.out.mono ?_;rintro e L ⟨rfl,K⟩);go_ret;exact⟨de C.out.symm,B.out.trans K⟩
end
