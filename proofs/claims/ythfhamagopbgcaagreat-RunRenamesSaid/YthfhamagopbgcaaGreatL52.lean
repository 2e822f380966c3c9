/- Parts. -/
import Derived.Test.YthfhamagopbgcaaGreatL02
set_option linter.unusedSimpArgs false
set_option linter.unusedVariables false
set_option maxRecDepth 100000
set_option maxHeartbeats 16000000
namespace Go.Proofs.YthfhamagopbgcaaGreat
section
namespace Rn
open Ref
structure Sim (f:Fn)(o:List Nat)(s s':St):Prop where
 mem:s'.mem=s.mem
 wid:s'.widths=s.widths
 stp:s'.steps=s.steps
 len:s.vals.length=count f
 len':s'.vals.length=count (moved f o)
 get:∀v,Kept f o v->s'.get (num f o v)=s.get v
theorem getD_map0 {α β:Type}(g:α->β)(l:List α)(i:Nat)(d:α):(l.map g).getD i (g d)=g (l.getD i d):=by rw[vA,vA,vH];cases l[i]?<;>rfl
section
variable {f:Fn}{o:List Nat}
theorem toOf_zero (ho:Ord f o):toOf o 0=0:=by have:=toOf_get ho.nodup ho.first;simpa using this
theorem kept_nat (ho:Ord f o){v:Int}(h:Kept f o v):(∃n:Nat,v=n)/\∃m:Nat,num f o v=m:=by
 rcases h with ⟨d,g⟩|⟨k,b,i,l,x,j,hl,p,rfl⟩
 ·obtain⟨n,rfl⟩:=vF d;exact⟨⟨n,rfl⟩,n,num_param g⟩
 ·exact⟨⟨_,rfl⟩,_,num_kept ho j hl p⟩
theorem num_inj (ho:Ord f o){v w:Int}(hv:Kept f o v)(hw:Kept f o w)(e:num f o v=num f o w):v=w:=by
 have F:(moved f o).params.length=f.params.length:=rfl;rcases hv with ⟨E,q⟩|⟨k,b,i,l,x,p,hl,r,rfl⟩
 ·rcases hw with ⟨z,m⟩|⟨u,y,t,A,B,d,g,j,rfl⟩
  ·rw[num_param q,num_param m]at e;exact e
  ·rw[num_param q,num_kept ho d g j]at e;unfold number at e;omega
 ·rcases hw with ⟨z,m⟩|⟨u,y,t,A,B,d,g,j,rfl⟩
  ·rw[num_param m,num_kept ho p hl r]at e;unfold number at e;omega
  ·have a:=where_moved ho p hl r;rw[e,where_moved ho d g j]at a;injection a with C D;obtain rfl:u=k:=by omega
   obtain rfl:t=i:=by omega
   rw[p]at d;injection d with d;subst d;rfl
theorem Sim.set (ho:Ord f o){s s':St}(h:Sim f o s s'){k b i:Nat}{l:List Ins}{x:Ins}(hk:o[k]?=some b)(hl:f.blocks[b]?=some l)(hx:l[i]?=some x)(y:V):Sim f o (s.set (number f b+i) y) (s'.set (number (moved f o) k+i) y) where
 mem:=h.mem
 wid:=h.wid
 stp:=h.stp
 len:=by unfold St.set;simp[h.len]
 len':=by unfold St.set;simp[h.len']
 get:=fun v hv=>by
  have j:Kept f o ((number f b+i:Nat):Int):=.inr ⟨k,b,i,l,x,hk,hl,hx,rfl⟩;have A:=(yC.1 hx).1;obtain⟨B,g,t⟩:=moved_blk ho hk;rw[hl]at g;injection g with g;subst g;have z:=number_count f hl;have r:=number_count (moved f o) t;rw[vS]at r;by_cases e:v=((number f b+i:Nat):Int)
  ·subst e;rw[num_kept ho hk hl hx,get_set_self (by rw[h.len'];omega),get_set_self (by rw[h.len];omega)]
  ·have d:num f o v≠num f o ((number f b+i:Nat):Int):=fun q=>e (num_inj ho hv j q);rw[num_kept ho hk hl hx]at d;have p:=h.get v hv;obtain⟨⟨n,rfl⟩,m,u⟩:=kept_nat ho hv;rw[u]at d p ⊢;rw[get_set_ne (by omega),get_set_ne (by omega),p]
def Res.mv (g:Int->Int):Res->Res
 | .go t=>.go (g t)
 | r=>r
def Nx.mv (g:Int->Int):Nx->Nx
 | .run t=>.run (g t)
 | r=>r
theorem exec_moved (hk:Keeps f o){s s':St}(h:Sim f o s s'){b:Nat}(hb:b∈o){l:List Ins}(hl:f.blocks[b]?=some l){i:Nat}{x:Ins}(hx:l[i]?=some x)(ho:x.op≠28)(pick:Pick) :
  exec (moved f o) pick (renum f o x) s'=(Res.mv (toOf o) (exec f pick x s).1,{s' with mem:=(exec f pick x s).2.mem,widths:=(exec f pick x s).2.widths}):=by
 have q:=hk.args b hb l hl i x hx ho;have E:(x.args.map (num f o)).map s'.get=x.args.map s.get:=by rw[List.map_map];exact List.map_congr_left fun v hv=>h.get v (q v hv)
 have F:(x.args.map (num f o)).map (kind (moved f o))=x.args.map (kind f):=by rw[List.map_map];exact List.map_congr_left fun v hv=>kind_moved hk.toOrd (q v hv)
 have G:∀j,(x.to.map (toOf o)).getD j 0=toOf o (x.to.getD j 0):=fun j=>by
  have:=getD_map0 (toOf o) x.to j 0
  rwa [toOf_zero hk.toOrd]at this
 have H:∀L K,plain (moved f o) ⟨x.op,x.width,x.flags,x.args.map (num f o),x.imm,x.to.map (toOf o)⟩ L K=plain f x L K:=fun L K=>rfl;rw[renum_no f o ho];unfold exec;dsimp only;rw[E,F];simp only[G,H];obtain⟨L,N⟩:=xJ (x.args.map s.get);obtain⟨K,M⟩:=xJ (x.args.map (kind f));rw[N,M];have I:=h.mem;have J:=h.wid;clear N M E F G H q h;obtain⟨va,q,O,U,st⟩:=s';obtain⟨S,P,Q,T,R⟩:=s;dsimp only at I J;subst I;subst J;unfold chosen St.chose;dsimp only;by_cases r:x.op=29
 ·simp only[r,if_true];rfl
 simp only[r,if_false];by_cases t:x.op=30
 ·simp only[t,if_true];by_cases d:(L.getD 0 zero).p=true
  ·simp only[d,if_true];rfl
  ·simp only[d,if_false];rfl
 simp only[t,if_false];by_cases u:x.op=31
 ·simp only[u,if_true];rfl
 simp only[u,if_false];by_cases y:x.op=32
 ·simp only[y,if_true];rfl
 simp only[y,if_false];by_cases z:x.op=26
 ·simp only[z,if_true];cases load O (L.getD 0 zero) (x.width / 8).toNat<;>rfl
 simp only[z,if_false];by_cases A:x.op=27
 ·simp only[A,if_true];cases store O (L.getD 0 zero) (L.getD 1 zero) (K.getD 1 0 / 8).toNat<;>rfl
 simp only[A,if_false];by_cases B:x.op=21
 ·simp only[B,if_true];by_cases d:(L.getD 0 zero).p=true
  ·simp only[d,if_true];rfl
  ·simp only[d,if_false];rfl
 simp only[B,if_false];by_cases C:x.op=23
 ·simp only[C,if_true];rfl
 simp only[C,if_false];by_cases D:x.op=15
 ·simp only[D,if_true];by_cases d:(L.getD 0 zero).p=true
  ·simp only[d,if_true];rfl
  ·simp only[d,if_false];rfl
 simp only[D,if_false];by_cases g:1<=x.op/\x.op<=13
 ·rw[wa g,wa g];cases arith x.op x.flags x.width (L.getD 0 zero) (L.getD 1 zero)<;>rfl
 rw[yD g,yD g];by_cases m:x.op=22\/(L.any fun x=>x.p)=true
 ·rw[wa m,wa m];rfl
 ·rw[yD m,yD m];rfl
theorem exec_same (f:Fn)(pick:Pick)(x:Ins)(s:St):(exec f pick x s).2.vals=s.vals/\(exec f pick x s).2.steps=s.steps :=
 exec_ways f pick x s (fun r=>r.2.vals=s.vals/\r.2.steps=s.steps) (fun _=>⟨rfl,rfl⟩) ⟨rfl,rfl⟩ (fun _=>⟨rfl,rfl⟩) (fun _=>⟨rfl,rfl⟩) (fun _=>⟨rfl,rfl⟩) (fun _=>⟨rfl,rfl⟩)
theorem Sim.exec {s s':St}(h:Sim f o s s')(pick:Pick)(x:Ins):Sim f o (exec f pick x s).2 {s' with mem:=(exec f pick x s).2.mem,widths:=(exec f pick x s).2.widths} where
 mem:=rfl
 wid:=rfl
 stp:=h.stp.trans (exec_same f pick x s).2.symm
 len:=by rw[(exec_same f pick x s).1];exact h.len
 len':=h.len'
 get:=fun v hv=>(h.get v hv).trans (by unfold St.get;rw[(exec_same f pick x s).1])
theorem Sim.tick {s s':St}(h:Sim f o s s'):Sim f o s.tick s'.tick:=⟨h.mem,h.wid,by unfold St.tick;simp[h.stp],h.len,h.len',h.get⟩
theorem idx_get:∀{l:List Int} {a:Int},a∈l->l[l.idxOf a]?=some a
 | [],a,h=>by cases h
 | b::r,a,h=>by
  rw[List.idxOf_cons]
  by_cases e:b=a
  ·subst e;simp
  ·have d:a∈r:=(List.mem_cons.1 h).resolve_left fun q=>e q.symm
   have:(b == a)=false:=by simpa using e
   rw[this];simpa using idx_get d
theorem pair_idx:∀{L:List (Int × Int)},L.Pairwise (fun a b=>a.1<b.1)->∀{k v:Int},(k,v)∈L->(L.map (·.2)).getD ((L.map (·.1)).idxOf k) 0=v
 | [],_,k,v,h=>by cases h
 | p::r,hp,k,v,h=>by
  obtain⟨d,g⟩:=List.pairwise_cons.1 hp
  rw[List.map_cons,List.map_cons,List.idxOf_cons];by_cases e:p.1=k
  ·have:(p.1 == k)=true:=by simpa using e
   rw[this];rcases List.mem_cons.1 h with q|q
   ·subst q;simp
   ·have:=d _ q;dsimp only at this;omega
  ·have:(p.1 == k)=false:=by simpa using e
   rw[this];rcases List.mem_cons.1 h with q|q
   ·subst q;exact absurd rfl e
   ·simpa using pair_idx g q
theorem phi_read (hv:Val f)(hk:Keeps f o){s s':St}(h:Sim f o s s'){b:Nat}(hb:b∈o){l:List Ins}(hl:f.blocks[b]?=some l){x:Ins}(hx:x∈l)(ho:x.op=28){a j:Nat}(ha:o[j]?=some a)(hm:(a:Int)∈x.to):phiRead s' (j:Int) (renum f o x)=phiRead s (a:Int) x:=by obtain⟨t,y,u,z⟩:=phi_parts hv hl hx ho;have d:=idx_get hm;obtain⟨v,g⟩:∃v,x.args[x.to.idxOf (a:Int)]?=some v:=⟨_,vu (by have:=(yC.1 d).1;omega)⟩;obtain⟨i,q⟩:=List.getElem?_of_mem hx;have m:Kept f o v:=hk.phiArgs b hb l hl i x q ho _ _ v d g (by rw[vG];exact vz ha);have p:=toOf_get hk.nodup ha;have r:((j:Int),num f o v)∈sortP f.blocks.length (phiL f o x):=(mem_sort_phi hk.toOrd).2 ⟨_,_,v,d,g,by rw[p],by rw[p];omega⟩;unfold phiRead;rw[renum_phi f o ho];dsimp only;rw[pair_idx (asc_sortP (apart_phi t u) _) r,vA,g];exact h.get v m
theorem phis_map (l:List Ins):phis (l.map (renum f o))=(phis l).map (renum f o):=by unfold phis;rw[List.takeWhile_map];congr 1;congr 1;funext x;simp[(renum_parts f o x).1]
theorem runIns_moved (hv:Val f)(hk:Keeps f o){k b:Nat}(hkb:o[k]?=some b){l:List Ins}(hl:f.blocks[b]?=some l)(reads:List V)(hr:reads.length=(phis l).length)(pick:Pick):∀(r:List Ins)(i:Nat)(s s':St),l.drop i=r->Sim f o s s' ->
  ∃t',runIns (moved f o) pick reads (r.map (renum f o)) i (number (moved f o) k+i) s'=(Nx.mv (toOf o) (runIns f pick reads r i (number f b+i) s).1,t')/\Sim f o (runIns f pick reads r i (number f b+i) s).2 t'
 | [],i,s,s',_,h=>⟨s',rfl,h⟩
 | x::r,i,s,s',hd,h=>by
  have m:l[i]?=some x:=by have:=congrArg (fun q=>q[0]?) hd;simpa[List.getElem?_drop] using this
  have d:l.drop (i+1)=r:=by have:=congrArg List.tail hd;simpa using this
  have p:=vz hkb;rw[List.map_cons,runIns,runIns,h.stp];by_cases c:s.steps=400
  ·rw[wa c,wa c];exact⟨s',rfl,h⟩
  rw[yD c,yD c];by_cases j:i<reads.length
  ·rw[wa j,wa j];exact runIns_moved hv hk hkb hl reads hr pick r (i+1) _ _ d (h.tick.set hk.toOrd hkb hl m _)
  ·rw[yD j,yD j];have u:x.op≠28:=fun e=>j (by rw[hr];exact(phi_iff hv (vz hl) m).1 e);rw[exec_moved hk h.tick p hl m u pick];have g:=h.tick.exec pick x;obtain⟨⟨A,B⟩,z⟩:∃q,exec f pick x s.tick=q:=⟨_,rfl⟩;rw[z]at g ⊢;dsimp only at g ⊢
   cases A with
   | val y=>exact runIns_moved hv hk hkb hl reads hr pick r (i+1) _ _ d (g.set hk.toOrd hkb hl m _)
   | on=>exact runIns_moved hv hk hkb hl reads hr pick r (i+1) _ _ d g
   | go t=>exact⟨_,rfl,g⟩
   | fin q=>exact⟨_,rfl,g⟩
theorem block_moved (hv:Val f)(hk:Keeps f o){k b:Nat}(hkb:o[k]?=some b){l:List Ins}(hl:f.blocks[b]?=some l){frm frm':Int}{s s':St}(he:Ent f b frm l s)(h:Sim f o s s')(hfr:frm=-1\/∃a j:Nat,o[j]?=some a/\frm=a/\frm'=j)(pick:Pick) :
  ∃t',block (moved f o) pick k frm' s'=(Nx.mv (toOf o) (block f pick b frm s).1,t')/\Sim f o (block f pick b frm s).2 t':=by
 obtain⟨u,d,r⟩:=moved_blk hk.toOrd hkb;rw[hl]at d;injection d with d;subst d
 have e:(phis (l.map (renum f o))).map (phiRead s' frm')=(phis l).map (phiRead s frm):=by
  rw[phis_map,List.map_map];refine List.map_congr_left fun x g=>?_;obtain⟨m,p⟩:=phis_mem g;obtain⟨q,-⟩:=he.phi x g;rcases hfr with rfl|⟨a,j,t,rfl,rfl⟩
  ·have:=(phi_parts hv hl m p).2.2.2 _ q;omega
  ·exact phi_read hv hk h (vz hkb) hl m p t q
 unfold block;rw[getD_some hl,getD_some r,e];exact runIns_moved hv hk hkb hl _ (vS _) pick l 0 s s' rfl h
theorem from_moved (hA:RcAll)(hv:Val f)(hi:Im f)(hk:Keeps f o)(hall:∀b,rc (graph f) (-1) b->b<f.blocks.length->b∈o){pick:Pick}(hp:PickOk pick):∀(n k b:Nat)(frm frm':Int)(s s':St)(l:List Ins),o[k]?=some b->f.blocks[b]?=some l->Ent f b frm l s->Sim f o s s'->(frm=-1\/∃a j:Nat,o[j]?=some a/\frm=a/\frm'=j) ->
  (from_ (moved f o) pick n k frm' s').1=(from_ f pick n b frm s).1/\(from_ (moved f o) pick n k frm' s').2.1.widths=(from_ f pick n b frm s).2.1.widths
 | 0,k,b,frm,frm',s,s',l,_,_,_,h,_=>⟨rfl,h.wid⟩
 | n+1,k,b,frm,frm',s,s',l,hkb,hl,he,h,hfr=>by
  obtain⟨u,B,r⟩:=block_moved hv hk hkb hl he h hfr pick
  have p:=block_ok hA hv hi hp he hl;rw[from_,from_,B];obtain⟨⟨F,G⟩,C⟩:∃q,block f pick b frm s=q:=⟨_,rfl⟩;rw[C]at p r ⊢
  cases F with
  | over q=>exact⟨rfl,r.wid⟩
  | run t =>
   obtain⟨m,E,z,A⟩:=p;have g:=hall t.toNat A.rch (yC.1 z).1;obtain⟨y,d⟩:=List.getElem?_of_mem g
   have D:toOf o t=(y:Nat):=by
    have:=toOf_get hk.nodup d
    rwa [Int.toNat_of_nonneg E]at this
   have ih:=from_moved hA hv hi hk hall hp n y t.toNat (b:Int) (k:Int) G u m d z A r (.inr ⟨b,k,hkb,rfl,rfl⟩);show (from_ (moved f o) pick n (toOf o t).toNat k u).1=_/\(from_ (moved f o) pick n (toOf o t).toNat k u).2.1.widths=_;rw[D,vG];exact ih
theorem start_sim (ho:Ord f o){i:Inp}(hl:i.args.length=f.params.length):Sim f o (Rn.start f i) (Rn.start (moved f o) i) where
 mem:=rfl
 wid:=rfl
 stp:=rfl
 len:=by
  have:f.params.length<=count f:=by unfold count number;omega
  unfold Rn.start;simp;omega
 len':=by
  have:(moved f o).params.length<=count (moved f o):=by unfold count number;omega
  have q:(moved f o).params.length=f.params.length:=rfl;unfold Rn.start;simp;omega
 get:=fun v hv=>by
  have q:(moved f o).params.length=f.params.length:=rfl;rcases hv with ⟨d,g⟩|⟨k,b,j,l,x,p,m,r,rfl⟩
  ·rw[num_param g];obtain⟨n,rfl⟩:=vF d;rw[start_get,start_get]
  ·rw[num_kept ho p m r,start_get,start_get,yD (by unfold number;omega),yD (by unfold number;omega)]
theorem run_moved (hA:RcAll){i:Inp}(hin:validInput f i=0)(hi:Im f)(ha:∀a∈i.args,0<=a)(hk:Keeps f o)(hall:∀b,rc (graph f) (-1) b->b<f.blocks.length->b∈o)(p:List Int) :
  (run (moved f o) (given p) i).1=(run f (given p) i).1/\(run (moved f o) (given p) i).2.1.widths=(run f (given p) i).2.1.widths:=by
 obtain⟨l,hl,d⟩:=start_ent hA hin ha;exact from_moved hA (valid_input hin).1 hi hk hall (given_ok p) 401 0 0 (-1) (-1) _ _ l hk.first hl d (start_sim hk.toOrd (valid_input hin).2.1) (.inl rfl)
theorem explore_moved (hA:RcAll){i:Inp}(hin:validInput f i=0)(hi:Im f)(ha:∀a∈i.args,0<=a)(hk:Keeps f o)(hall:∀b,rc (graph f) (-1) b->b<f.blocks.length->b∈o):∀(n:Nat)(p:List Int)(outs:List Out),explore (moved f o) i n p outs=explore f i n p outs
 | 0,p,outs=>rfl
 | n+1,p,outs=>by
  obtain⟨d,g⟩:=run_moved hA hin hi ha hk hall p
  rw[explore,explore,d,g]
  cases nextK (padded p (run f (given p) i).2.1.widths.length) (run f (given p) i).2.1.widths (run f (given p) i).2.1.widths.length with
  | none=>rfl
  | some k=>exact explore_moved hA hin hi ha hk hall n _ _
theorem all_moved (hA:RcAll){i:Inp}(hin:validInput f i=0)(hi:Im f)(ha:∀a∈i.args,0<=a)(hk:Keeps f o)(hall:∀b,rc (graph f) (-1) b->b<f.blocks.length->b∈o):validInput (moved f o) i=0/\all (moved f o) i=all f i:=by refine⟨?_,explore_moved hA hin hi ha hk hall _ _ _⟩;have hv:=(valid_input hin).1;have d:validate f=0:=(val_iff f).2 hv;have g:validate (moved f o)=0:=(val_iff _).2 (moved_val hA hv hk);rw[<-hin];unfold validInput;rw[d,g];rfl
end
theorem all_pruned (hA:RcAll){f:Fn}{i:Inp}(hin:validInput f i=0)(hi:Im f)(ha:∀a∈i.args,0<=a):validInput (pruneF f) i=0/\all (pruneF f) i=all f i:=by have hv:=(valid_input hin).1;unfold pruneF;rw[wa ((val_iff f).2 hv)];exact all_moved hA hin hi ha (keeps_reached hA hv) fun b d g=>mem_kept.2 ⟨g,d⟩
theorem all_renamed (hA:RcAll){f:Fn}{i:Inp}(hin:validInput f i=0)(hi:Im f)(ha:∀a∈i.args,0<=a){tz:List Int}(h:renameE f tz=0):validInput (renameF f tz) i=0/\all (renameF f tz) i=all f i:=by obtain⟨hv,j,g,l⟩:=renameE_ok h;obtain⟨m,d,-⟩:=order_ord l j g;unfold renameF;rw[wa h];exact all_moved hA hin hi ha (keeps_all hv m d) fun b _ g=>d b g
end Rn
end
