/- Parts. -/
import Derived.Test.YthfjdhanbegaoaaGreatDoorT18
import Derived.Sort.QuietIn
import Derived.IntWalk
import Derived.Test.YthfjdhanbegaoaaGreatDoorT19
set_option linter.unusedSimpArgs false
set_option linter.unusedVariables false
set_option maxRecDepth 100000
set_option maxHeartbeats 16000000
open Go.Proofs.Tryz
namespace Go.Proofs.YthfjdhanbegaoaaGreatDoor
section
open Go.RowKit Go.Shelf
def iu (ops:Array Oper):Bool:=ops.toList.all fun o=>match o.op with|.defer _=>false|_=>true
theorem kz {ops:Array Oper}(h:iu ops=true){i:Nat}{o:Oper}(hi:ops[i]?=some o):∀c,o.op≠.defer c:=by
 intro c e
 have d:o∈ops.toList:=by have:=Array.mem_of_getElem? hi;simpa using this
 have:=pw.1 h o d;rw[e]at this;cases this
section
variable {F:Fence}{n:Nat}{P:Program}{ops:Array Oper}{C:World->Prop}
theorem jR {o:Oper}{a:Act}{K:Act->Prop}{K':Act->World->Prop}{Q':Exit->Act->World->Prop}{w:World}(hnd:∀c,o.op≠.defer c)(hw:C w)(h:∀a w',C w'->K a->K' a w')
  (ha:o.askedIn F P a C) (hh:o.quietIn F n P a C K):o.wpIn F n P a w K' Q':=by
 obtain⟨v,l,j⟩:=hh;have d:=l w hw;unfold Oper.quietAtIn at d;refine⟨ha w hw,?_⟩;rw[Oper.semAt_plain F _ _ hnd]
 revert d
 generalize (execOp a.eval o).run P w=r;intro d
 cases r with
 | halt x w'=>exact d.elim
 | ok x w' =>
  cases x with
  | value u=>obtain⟨rfl,rfl⟩:=d;exact h _ _ hw j
  | skip=>obtain⟨rfl,rfl⟩:=d;exact h _ _ hw j
  | enter f args =>
   obtain⟨rfl,hd,m⟩:=d;exact⟨hd,m.mono fun e q ⟨p,g⟩=>by subst p;exact h _ _ g j⟩
  | _=>exact d.elim
theorem ez {Q:Act->Prop}{Q':Exit->Act->World->Prop}(hnd:iu ops=true)(hQ:∀a w,C w->Q a->Q' .normal a w):∀(fuel:Nat)(listed:Array Bool)(a:Act)(w:World),C w ->
  wpAnyQIn F n P .any ops C Q fuel listed a->wpAnyIn F n P .any ops Q' fuel listed a w
 | 0,_,_,_,hw,h=>⟨h.1,hQ _ _ hw h.2⟩
 | fuel+1,listed,a,w,hw,h=>by
  refine⟨fun h0=>hQ _ _ hw (h.1 h0),fun i hi=>?_⟩
  have d:=h.2 i hi
  have ih:=fun j w' g=>ez hnd hQ fuel (listed.setIfInBounds i true) j w' g;unfold qOpIn at d;unfold wpOpIn
  cases ho:ops[i]? with
  | none=>rw[ho]at d;exact ih _ _ hw d
  | some o =>
   rw[ho]at d;obtain⟨l,d⟩:=d;dsimp only;split
   ·next hwt=>rw[pB hwt]at d;exact jR (kz hnd ho) hw (fun j w' g m=>ih j w' g m) l d
   ·next hwt=>rw[pC hwt]at d;exact⟨l w hw,ih _ _ hw d⟩
theorem iy {id:Nat}{Q:Exit->Act->World->Prop}{a:Act}{w:World}{l:List Oper}(hnd:iu l.toArray=true)(hm:P.follows .mixedOrders=true)(hB:Region.lexB .any l.toArray=true)
  (h:wpQuietIn F n P l.toArray (fun w'=>∃n,w'=w.drewN n) (fun a'=>∀w',(∃n,w'=w.drewN n)->Q .normal a' w') l a):(Code.region id l.toArray true).wpIn F n P Q a w:=by
 simp only[Region.lexB,pD]at hB;refine wpIn_region_any hm (ez (C:=fun w'=>∃n,w'=w.drewN n) (Q:=fun a'=>∀w',(∃n,w'=w.drewN n)->Q .normal a' w') hnd (fun _ w' hw' h=>h w' hw') _ _ _ _ ⟨1,rfl⟩ ?_);have:=wpAnyQIn_lex (F:=F) (n:=n) (C:=fun w'=>∃n,w'=w.drewN n) (md:=.any) hB.1 l 0 (Array.replicate l.toArray.size false) a (by simp) (by simpa using hB.2) h;simpa using this
structure GrW (w:World) where
 val:World
 gr:Gr w val
theorem gI {id:Nat}{Q:Exit->Act->World->Prop}{a:Act}{w:World}{l:List Oper}(hnd:iu l.toArray=true)(hm:P.follows .mixedOrders=true)(hB:Region.lexB .any l.toArray=true)
  (h:wpQuietIn F n P l.toArray (fun w'=>∃u:GrW w,w'=u.val) (fun a'=>∀w',(∃u:GrW w,w'=u.val)->Q .normal a' w') l a):(Code.region id l.toArray true).wpIn F n P Q a w:=by
 simp only[Region.lexB,pD]at hB;refine wpIn_region_any hm (ez (C:=fun w'=>∃u:GrW w,w'=u.val) (Q:=fun a'=>∀w',(∃u:GrW w,w'=u.val)->Q .normal a' w') hnd (fun _ w' hw' h=>h w' hw') _ _ _ _ ⟨⟨w.drew,(qj w).drew⟩,rfl⟩ ?_);have:=wpAnyQIn_lex (F:=F) (n:=n) (C:=fun w'=>∃u:GrW w,w'=u.val) (md:=.any) hB.1 l 0 (Array.replicate l.toArray.size false) a (by simp) (by simpa using hB.2) h;simpa using this
end
theorem iN {F:Fence}{r:Nat}{P:Program}{f:FuncId}{args:Array Value}{w:World}{v:Value}(u:GrW w)
  (h:CallsIn F r P f args u.val (RG v u.val)):CallsIn F r P f args u.val fun e w''=>e=.returned v/\∃u':GrW w,w''=u'.val :=
 h.mono fun _ w' ⟨d,g⟩=>⟨d,⟨w',u.gr.trans g⟩,rfl⟩
theorem iY {F:Fence}{r:Nat}{P:Program}{f:FuncId}{args:Array Value}{w:World}{n:Nat}{v:Value}
  (h:CallsIn F r P f args (w.drewN n) fun e w'=>e=.returned v/\w.drewN n=w'):CallsIn F r P f args (w.drewN n) fun e w''=>e=.returned v/\∃m,w''=w.drewN m :=
 h.mono fun _ _ ⟨d,g⟩=>⟨d,n,g.symm⟩
attribute [local go_sem] Oper.semAt_some
theorem fO:∀(bs:List Bool)(k b:Nat),Ref.has (Ir.listFrom bs k) (b:Int)=(decide (k<=b) && bs.getD (b-k) false)
 | [],k,b=>by simp[Ir.listFrom,Ref.has]
 | x::r,k,b=>by
  have ih:=fO r (k+1) b
  unfold Ref.has at ih ⊢;rw[Ir.listFrom];rcases Nat.lt_trichotomy b k with h|h|h
  ·have g:decide (k<=b)=false:=by simp;omega
   have d:decide (k+1<=b)=false:=by simp;omega
   rw[d,Bool.false_and]at ih;rw[g,Bool.false_and];split
   ·rw[List.any_cons,ih];simp;omega
   ·exact ih
  ·subst h;have d:decide (b+1<=b)=false:=by simp
   rw[d,Bool.false_and]at ih
   cases x with
   | true=>simp
   | false=>simp only[Bool.false_eq_true,if_false];rw[ih];simp
  ·have g:decide (k<=b)=true:=by simp;omega
   have d:decide (k+1<=b)=true:=by simp;omega
   rw[d,Bool.true_and]at ih;rw[g,Bool.true_and,show b-k=(b-(k+1))+1 by omega,List.getD_cons_succ];split
   ·rw[List.any_cons,ih];have:decide ((k:Int)=(b:Int))=false:=by simp;omega
    rw[this,Bool.false_or]
   ·exact ih
theorem jq (g:List (List Int))(b:Nat)(h:b<10):Ref.has (Ir.reachedL g) (b:Int)=rb g b:=by unfold Ir.reachedL;rw[fO];simp[h]
theorem kx {f:Fn}{v:Int}(h:0<=Ref.kind f v):0<=v/\v<Ref.count f:=by
 unfold Ref.kind at h;split at h
 ·omega
 ·omega
theorem kW {f:Fn}{x:Ins}(h:Ref.typed f x=true):∀v∈x.args,0<=v/\v<Ref.count f:=by unfold Ref.typed at h;simp only[pD]at h;intro v d;have:=pw.1 h.1 v d;exact kx (by simpa using this)
theorem il (v:Value)(f:Fn)(w:World)(hf:FnAt w.heap.size w v f)(hb1:1<=f.blocks.length)(hb10:f.blocks.length<=10)(hit:(Ir.items f).length<=1000000)(hpl:f.params.length<=100000)(hln:Hid (∀l∈f.blocks,l.length<=100000))
  (hA:Hid (∀l∈f.blocks,∀x∈l,Ref.argument f x=true)) (hL:Hid (f.blocks.all Ref.laid=true)) (hT:Hid (∀l∈f.blocks,∀x∈l,Ref.typed f x=true)) :
  Calls prog 55 #[v] w (RG (.bool ((Ir.items f).all (Ir.argsOk f (Ref.graph f)))) w):=by
 have hv:=fG hA.out hL.out hb1 hb10;have bo:Hid (∀l∈f.blocks,l≠[]):=fun l hl=>ip (pw.1 hL.out l hl);have bk:=hf
 have HH:Hid (∀A,Gr w A->Calls prog 72 #[v] A fun e w'=>∃A1 n1 c1 A2 n2 c2 A3 n3 c3,e=.returned (.agg #[.int .i64 f.params.length,.slice A1 n1 c1,.slice A2 n2 c2,.slice A3 n3 c3])/\Hid (IntsAt w'.heap.size w' (.slice A1 n1 c1) (ji f)/\IntsAt w'.heap.size w' (.slice A2 n2 c2) (ei f)/\TabAt w'.heap.size w' (.slice A3 n3 c3) (Ref.graph f))/\Gr A w'):=by intro A q;refine(iO v f A (hf.gr q) (by omega) hit bo).mono ?_;rintro e w' ⟨vb,va,vg,q1,q2,q3,q4,q5⟩;have r2:=q2;have r3:=q3;have r4:=q4;obtain⟨A1,c1,rfl,-,-,-⟩:=q2;obtain⟨A2,c2,rfl,-,-,-⟩:=q3;obtain⟨A3,c3,rfl,-,-,-⟩:=q4;exact⟨A1,_,c1,A2,_,c2,A3,_,c3,q1,⟨r2,r3,r4⟩,q5⟩
 have a0:Hid (∀A u,TabAt A.heap.size A u (Ref.graph f)->Calls prog 94 #[u] A fun e w'=>∃X n4 c4,e=.returned (.tuple #[.slice X n4 c4,.int .i64 0])/\Hid (IntsAt w'.heap.size w' (.slice X n4 c4) (Ir.reachedL (Ref.graph f)))/\Gr A w'):=by intro A u h;refine(jj u (Ref.graph f) A h hv).mono ?_;rintro e w' ⟨vl,q1,q2,q3⟩;have r2:=q2;obtain⟨X,c4,rfl,-,-,-⟩:=q2;exact⟨X,_,c4,q1,r2,q3⟩
 obtain⟨vp,vs,vb,rfl,hp,aQ,hb⟩:=hf;obtain⟨Ap,cp,rfl,-,-,-⟩:=hp;obtain⟨As,cs,rfl,-,-,-⟩:=aQ;obtain⟨Ab,cb,rfl,-,bK,aG⟩:=hb;obtain⟨bb,ob,rfl,aH,Q⟩:=aG (by omega);have HC:=dJ Q;obtain⟨W,hW⟩:=xJ ((w.alloc (.cells #[.slice Ap f.params.length cp,.int .i64 f.ret,.slice As f.slots.length cs,.slice (some ⟨bb,ob,none⟩) f.blocks.length cb] 25)).alloc (.cells #[.bool false] 4));have av:Gr w W:=by rw[<-hW];exact((qj w).alloc _).alloc _
 have bJ:W.heap.size=w.heap.size+2:=by rw[<-hW];simp
 have g0:Gr (w.alloc (.cells #[.slice Ap f.params.length cp,.int .i64 f.ret,.slice As f.slots.length cs,.slice (some ⟨bb,ob,none⟩) f.blocks.length cb] 25)) W:=by rw[<-hW];exact(qj _).alloc _
 have B0:Hid (∀w',Gr W w'->w'.cell? ⟨w.heap.size,0,none⟩=some (.slice Ap f.params.length cp)/\w'.cell? ⟨w.heap.size,1,none⟩=some (.int .i64 f.ret)/\w'.cell? ⟨w.heap.size,2,none⟩=some (.slice As f.slots.length cs)/\w'.cell? ⟨w.heap.size,3,none⟩=some (.slice (some ⟨bb,ob,none⟩) f.blocks.length cb)) :=
  fun w' q=>⟨(q.cell _ _ (by omega)).trans (dg _ _ 0 g0 rfl),(q.cell _ _ (by omega)).trans (dg _ _ 1 g0 rfl),(q.cell _ _ (by omega)).trans (dg _ _ 2 g0 rfl),(q.cell _ _ (by omega)).trans (dg _ _ 3 g0 rfl)⟩
 have bv:W.heap[w.heap.size+1]?=some (.cells #[.bool false] 4 (0,0)):=by rw[<-hW];exact heap_alloc2_new w _ _
 have R0:Hid (∀w',Gr W w'->w'.heap[w.heap.size+1]?=some (.cells #[.bool false] 4 (0,0))):=fun w' q=>(q.heap _ (by omega)).trans bv;have aW:Hid (∀A,Calls prog 50 #[.agg #[.slice Ap f.params.length cp,.int .i64 f.ret,.slice As f.slots.length cs,.slice (some ⟨bb,ob,none⟩) f.blocks.length cb]] A fun e w'=>e=.returned (.func (.func 81) #[] #[.pointer (some ⟨A.heap.size,0,none⟩)])/\w'=A.alloc (.cells #[.slice Ap f.params.length cp,.int .i64 f.ret,.slice As f.slots.length cs,.slice (some ⟨bb,ob,none⟩) f.blocks.length cb] 25)):=fun A=>iF f Ap As _ _ _ _ cp cs cb A;have HV:=dJ hv;refine(callsIn_wide (n:=5)).1 ?_;refine callsIn_of_wp_marks func55 rfl trivial ?_ rfl;simp only[ntmps55,List.size_toArray,List.length_cons,List.length_nil,Nat.reduceAdd,Nat.reduceSub,Array.replicate_succ,Array.replicate_zero,List.push_toArray,List.append_toArray,List.nil_append,List.cons_append];refine wpIn_wide.2 ?_;obtain⟨k0,k1,k2,k3⟩:=B0.out W (qj _);clear g0 Q aG hv
 go_wp2_with (first|(go_at_call 72;refine(HH.out _ av).mono ?_;rintro e A ⟨A1,n1,c1,A2,n2,c2,A3,n3,c3,rfl,HI,g1⟩)|(go_at_call 94;refine(a0.out _ _ (HI.out.2.2.gr ((qj _).alloc _))).mono ?_;rintro e M ⟨X,n4,c4,rfl,aZ,g2⟩;have L:Gr W M:=g1.trans (((qj _).alloc _).trans g2);have hq:∀o,(M.alloc o).cell? ⟨w.heap.size,0,none⟩=some (.slice Ap f.params.length cp):=fun o=>(B0.out _ (L.alloc o)).1;have bq:∀o,(M.alloc o).cell? ⟨w.heap.size,1,none⟩=some (.int .i64 f.ret):=fun o=>(B0.out _ (L.alloc o)).2.1;have br:∀o,(M.alloc o).cell? ⟨w.heap.size,2,none⟩=some (.slice As f.slots.length cs):=fun o=>(B0.out _ (L.alloc o)).2.2.1;have bu:∀o,(M.alloc o).cell? ⟨w.heap.size,3,none⟩=some (.slice (some ⟨bb,ob,none⟩) f.blocks.length cb):=fun o=>(B0.out _ (L.alloc o)).2.2.2)|(go_at_call 50;refine(aW.out _).mono ?_;rintro e w3 ⟨rfl,rfl⟩))
 obtain⟨U,ac⟩:=xJ ((M.alloc (.cells #[.slice X n4 c4] 22)).alloc (.cells #[.slice Ap f.params.length cp,.int .i64 f.ret,.slice As f.slots.length cs,.slice (some ⟨bb,ob,none⟩) f.blocks.length cb] 25));have R:Gr M U:=by rw[<-ac];exact((qj _).alloc _).alloc _
 have C:Gr W U:=L.trans R;have j:Gr w U:=av.trans C;have bP:U.heap.size<=M.heap.size+2/\M.heap.size+2<=U.heap.size:=by rw[<-ac];simp
 have am:∀o,U.cell? ⟨M.heap.size+1,o,none⟩=(#[.slice Ap f.params.length cp,.int .i64 f.ret,.slice As f.slots.length cs,.slice (some ⟨bb,ob,none⟩) f.blocks.length cb]:Array Value)[o]?:=by intro o;rw[<-ac];exact px _ _ _ _ _ _ (heap_alloc2_new M _ _)
 have aO:U.heap[M.heap.size]?=some (.cells #[.slice X n4 c4] 22 (0,0)):=by rw[<-ac];exact heap_alloc2_old M _ _
 have bN:A.heap.size+1<=M.heap.size:=by have:=g2.size;simp at this;omega
 have aK:U.heap[A.heap.size]?=some (.cells #[.int .i64 f.params.length,.slice A1 n1 c1,.slice A2 n2 c2,.slice A3 n3 c3] 100 (0,0)):=((g2.trans R).heap _ (by simp)).trans (heap_alloc_new A _)
 have KP:Hid (∀w',Gr U w'->w'.heap[M.heap.size]?=some (.cells #[.slice X n4 c4] 22 (0,0))/\w'.heap[A.heap.size]?=some (.cells #[.int .i64 f.params.length,.slice A1 n1 c1,.slice A2 n2 c2,.slice A3 n3 c3] 100 (0,0))) :=
  fun w' q=>⟨(q.heap _ (by omega)).trans aO,(q.heap _ (by omega)).trans aK⟩
 have aD:Hid (∀(z:Int)(b:Nat)(J:Int) w',Gr U w'->0<=z->z<Ref.count f->b<f.blocks.length->rb (Ref.graph f) b=true->Calls prog 96 #[.agg #[.int .i64 f.params.length,.slice A1 n1 c1,.slice A2 n2 c2,.slice A3 n3 c3],.int .i64 z,.int .i64 b,.int .i64 J] w' (RG (.bool (Ir.isThere f (Ref.graph f) z b J)) w')):=by intro z b J w' q h1 h2 h3 h4;have q':Gr A w':=((qj _).alloc _).trans (g2.trans (R.trans q));exact jy f _ _ _ z b J w' (HI.out.1.gr q') (HI.out.2.1.gr q') (HI.out.2.2.gr q') HV.out h1 h2 h3 h4 hpl hit
 have al:Hid (∀(b:Nat) w',Gr U w'->b<10->Calls prog 95 #[.slice X n4 c4,.int .i64 b] w' (RS (.bool (rb (Ref.graph f) b)) w')):=by intro b w' q h;rw[<-jq _ b h];exact fL _ _ _ w' (aZ.out.gr (R.trans q))
 have bO:=av.size;have bT:=j.size;rw[ac];clear hq bq br bu k0 k1 k2 k3 aO aK
 refine fC (w:=w) (f:=f) (q:=6) (Bf:=M.heap.size+1) rfl bk j (by omega) (by omega) (am 0) (am 3) (fun O N=>(∀it∈O,Ir.argsOk f (Ref.graph f) it=true)/\Gr U N)
  (fun c O N=>c=.ret/\(∃it∈O,Ir.argsOk f (Ref.graph f) it=false)/\Below w.heap.size w N/\N.heap[w.heap.size+1]?=some (.cells #[.bool false] 4 (0,0)))
  (OwnFrom.and (ownFrom_pure _ _) (eZ U)) (fun c=>OwnFrom.and (ownFrom_pure _ _) (OwnFrom.and (ownFrom_pure _ _) (OwnFrom.and (ownFrom_below (pS _) (by omega)) (eA _ _ _)))) (fun O N h=>h.2.size) ⟨fun it h=>by simp at h,qj _⟩ ?hassign ?hbody ?hdone ?hstop
 case hassign =>
  intro l it aa ta ca ct N K G;simp only[pO,List.set_cons_succ,List.set_cons_zero,jn,mn]at G ⊢;gi_wp2;exact G
 case hbody =>
  rintro l O it aa ta ca ct N Bx ⟨ag,E⟩ bz aT an ax bI ai;simp only[pO,List.set_cons_succ,List.set_cons_zero,jn];obtain⟨lb,e1,e2⟩:=fz f it an;have ay:=pa e1;have az:=pa e2;have au:=fj f it.ins (hA.out lb ay it.ins az);have a6:=dJ (kW (hT.out lb ay it.ins az));have a5:=dJ au.1;have aY:Hid (it.ins.op=28->it.ins.to.length=it.ins.args.length):=au.2;have bh:it.blk<f.blocks.length:=(oZ.1 e1).1;have bF:Hid (O.length<(Ir.items f).length+1):=ax;have bM:=E.size;have HX:Hid (∀w' o,Gr N w'->w'.cell? ⟨Bx,o,none⟩=(mn it aa ta ca ct)[o]?):=fun w' o q=>(q.cell Bx o (pf.1 ai).1).trans (px _ _ _ _ _ _ ai);have x0:N.cell? ⟨Bx,0,none⟩=some (.int .i64 it.ins.op):=HX.out _ 0 (qj _);have x3:N.cell? ⟨Bx,3,none⟩=some (.slice aa it.ins.args.length ca):=HX.out _ 3 (qj _);have x7:N.cell? ⟨Bx,7,none⟩=some (.int .i64 it.blk):=HX.out _ 7 (qj _);have bl:=cell_of_one (KP.out _ E).1;have ap:=dJ (al.out it.blk N E (by omega));obtain⟨bB,ah⟩:=xJ (rb (Ref.graph f) it.blk);have ar:=dJ ah;rw[ah]at ap;clear e1 e2 ay az au an ax ai ah
  cases bB with
  | false =>
   have aq:Hid (Ir.argsOk f (Ref.graph f) it=true):=by show _=_;unfold Ir.argsOk;rw[ar.out];rfl
   gi_wp2_with (refine⟨trivial,?_⟩;gi_at_call 95;refine(CallsIn.inRound l (callsIn_wide.2 ap.out)).mono ?_;rintro e w4 ⟨rfl,rfl⟩);refine⟨(KeepsOthers.refl _).from _,Below.refl _ _,?_,E⟩;intro aC aw;rcases pI.1 aw with h|h
   ·exact ag aC h
   ·simp at h;subst h;exact aq.out
  | true =>
   have aq:Hid (Ir.argsOk f (Ref.graph f) it=Ref.argsFrom f (Ref.graph f) (Ref.reached (Ref.graph f) (-1)) it.blk it.pos it.ins it.ins.args 0):=by show _=_;unfold Ir.argsOk;rw[ar.out];rfl
   gi_wp2_with (refine⟨trivial,?_⟩;gi_at_call 95;refine(CallsIn.inRound l (callsIn_wide.2 ap.out)).mono ?_;rintro e w4 ⟨rfl,rfl⟩);obtain⟨Aa,bG,ea,a1,a2,a3⟩:=bz;have aF:=dJ a3;simp only[Value.slice.injEq,true_and]at ea;obtain⟨bc,bd⟩:=ea;subst bc;subst bd
   gi_loopw [7,8,9,30] (fun _ _ _ i wr=>∃m:Nat,m<=it.ins.args.length/\i=.int .i64 m/\Gr N wr/\Hid (Ir.argsOk f (Ref.graph f) it=Ref.argsFrom f (Ref.graph f) (Ref.reached (Ref.graph f) (-1)) it.blk it.pos it.ins (it.ins.args.drop m) m)) (fun _ _ _ i _=>it.ins.args.length-(intOf i).toNat)
   case atStart=>exact⟨0,pR _,rfl,qj _,aq⟩
   case round =>
    obtain⟨m,hm,rfl,y,I⟩:=hrel;obtain⟨wp,rfl⟩:∃wp:World,wp=wr:=⟨_,rfl⟩;clear x0 x3 x7 bl;rcases hr:it.ins.args.drop m with _|⟨z,r⟩
    ·have bn:=dm hr hm;have HE:Hid (Ir.argsOk f (Ref.graph f) it=true):=by show _=_;rw[I.out,hr];rfl
     have bL:(it.ins.args.length:Int)<=m:=by omega
     clear hr I bn a3;gi_wp2;refine⟨y.keeps.from _,Below.mono y (by omega),?_,E.trans y⟩;intro aC aw;rcases pI.1 aw with h|h
     ·exact ag aC h
     ·simp at h;subst h;exact HE.out
    ·obtain⟨ax,hz,aN⟩:=dj hr;obtain⟨ba,oa,e3,bg,aI⟩:=aF.out (by omega);subst e3;have bU:=((j.trans (E.trans y)).cell _ _ bg).trans (aI m z hz);have bA:=a6.out z (pa hz);have d:=E.trans y;have x0:wp.cell? ⟨Bx,0,none⟩=some (.int .i64 it.ins.op):=HX.out _ 0 y;have Z:Hid (Ir.argsOk f (Ref.graph f) it=(Ref.argOk f (Ref.graph f) (Ref.reached (Ref.graph f) (-1)) it.blk it.pos it.ins z (it.ins.to.getD m 0) && Ref.argsFrom f (Ref.graph f) (Ref.reached (Ref.graph f) (-1)) it.blk it.pos it.ins r (m+1))):=by show _=_;rw[I.out,hr];rfl
     have ab:Hid (it.ins.args.drop (m+1)=r):=aN;have bE:(m:Int)<it.ins.args.length:=by omega
     have ad:=R0.out _ (C.trans d);have rc:=cell_of_one ad;have rf:=free_of_one ad;obtain⟨aV,ak⟩:=bA;clear hr hz aN I aI a3;by_cases ho:it.ins.op=28
     ·have bp:(it.ins.op != 28)=false:=by simp[ho]
      have bm:=aY.out ho;obtain⟨tz,ht⟩:∃tz,it.ins.to[m]?=some tz:=⟨it.ins.to[m]'(by omega),oY (by omega)⟩;have aS:=a5.out tz (pa ht);obtain⟨F,rfl⟩:=pg aS.1;have aR:F<f.blocks.length:=by omega
      have aU:=aT;obtain⟨At,bH,et,t1,t2,t3⟩:=aT;simp only[Value.slice.injEq,true_and]at et;obtain⟨be,bf⟩:=et;subst be;subst bf;obtain⟨bt,ot,e4,bj,aJ⟩:=t3 (by omega);subst e4;have bQ:=((j.trans d).cell _ _ bj).trans (aJ m (F:Int) ht);have x5:wp.cell? ⟨Bx,5,none⟩=some (.slice (some ⟨bt,ot,none⟩) it.ins.to.length ct):=HX.out _ 5 y;have bR:(m:Int)<it.ins.to.length:=by omega
      obtain⟨lt,T⟩:∃lt,f.blocks[F]?=some lt:=⟨f.blocks[F],oY aR⟩;obtain⟨u,hu,bx⟩:=HC.out F lt T;obtain⟨Al,cl,rfl,p1,p2,-⟩:=bx;have bw:∀n,(wp.drewN n).cell? ⟨bb,ob+F,none⟩=some (.slice Al lt.length cl):=fun n=>((j.trans (d.trans ((qj _).drewN n))).cell _ _ aH).trans hu;have ao:=((j.trans d).cell _ _ aH).trans hu;obtain⟨c0,a7,a8,a9⟩:=B0.out _ (C.trans d);have bS:(F:Int)<f.blocks.length:=by omega
      have V:=KP.out _ d;have y0:=cell_of_one V.1;obtain⟨h0,h1,h2,h3⟩:=crw4 V.2 0 1 2 3;have aX:Hid (it.ins.to.getD m 0=(F:Int)):=by show _=_;simp[List.getD,ht]
      have H:Hid (Ref.argOk f (Ref.graph f) (Ref.reached (Ref.graph f) (-1)) it.blk it.pos it.ins z (it.ins.to.getD m 0)=(!rb (Ref.graph f) F || Ir.isThere f (Ref.graph f) z F lt.length)):=by show _=_;rw[aX.out,jz f _ z F lt T ak];unfold Ref.argOk rb;rw[pB ho];simp
      have Y:Hid (∀w',Gr wp w'->Calls prog 95 #[.slice X n4 c4,.int .i64 F] w' (RS (.bool (rb (Ref.graph f) F)) w')):=fun w' q=>al.out F w' (d.trans q) (by omega)
      have B:Hid (rb (Ref.graph f) F=true->∀w',Gr wp w'->Calls prog 96 #[.agg #[.int .i64 f.params.length,.slice A1 n1 c1,.slice A2 n2 c2,.slice A3 n3 c3],.int .i64 z,.int .i64 F,.int .i64 lt.length] w' (RG (.bool (Ir.isThere f (Ref.graph f) z F lt.length)) w')) :=
       fun ah w' q=>aD.out z F _ w' (d.trans q) aV ak aR ah
      obtain⟨rt,aP⟩:=xJ (rb (Ref.graph f) F);obtain⟨th,aj⟩:=xJ (Ir.isThere f (Ref.graph f) z F lt.length);rw[aP]at H Y B;rw[aj]at H B;have aQ:lt.length<=100000:=hln.out lt (pa T);clear ho bm ht aS aJ t3 T hu V aP aj aU
      cases rt with
      | false =>
       gi_wp2;refine iy (by kernel_rfl) (by kernel_rfl) (by kernel_rfl) ?_
       repeat (first
         | gi_big_quiet_step (fail)
         | (refine wpQuietIn_step (fun _ _ _ _=>trivial) (fun K G=>?_)
            go_simp
            first
              | (refine G _ ?_;clear G K)
              | (apply Exists.intro
                 refine⟨fun _=>?_,G _ ?_⟩
                 (gi_at_call 95;exact iY (CallsIn.inRound l (callsIn_wide.2 (Y.out _ ((qj wp).drewN _)))))
                 clear G K)))
       refine wpQuietIn_nil ?_;intro w9 aB;obtain⟨nq,rfl⟩:=aB;gi_wp2;go_roundw;case rel=>exact⟨m+1,by omega,by go_num,y.drewN _,by (show _=_;rw[Z.out,H.out,ab.out];simp)⟩
       case measure=>simp[intOf];omega
      | true =>
       have aE:=dJ (B.out rfl);have U0:∀u:GrW wp,u.val.cell? ⟨M.heap.size,0,none⟩=some (.slice X n4 c4):=fun u=>cell_of_one (KP.out _ (d.trans u.gr)).1;have U1:∀u:GrW wp,u.val.cell? ⟨A.heap.size,0,none⟩=some (.int .i64 f.params.length):=fun u=>px _ _ 0 _ _ _ (KP.out _ (d.trans u.gr)).2;have U2:∀u:GrW wp,u.val.cell? ⟨A.heap.size,1,none⟩=some (.slice A1 n1 c1):=fun u=>px _ _ 1 _ _ _ (KP.out _ (d.trans u.gr)).2;have U3:∀u:GrW wp,u.val.cell? ⟨A.heap.size,2,none⟩=some (.slice A2 n2 c2):=fun u=>px _ _ 2 _ _ _ (KP.out _ (d.trans u.gr)).2;have U4:∀u:GrW wp,u.val.cell? ⟨A.heap.size,3,none⟩=some (.slice A3 n3 c3):=fun u=>px _ _ 3 _ _ _ (KP.out _ (d.trans u.gr)).2;have U5:∀u:GrW wp,u.val.cell? ⟨w.heap.size,3,none⟩=some (.slice (some ⟨bb,ob,none⟩) f.blocks.length cb):=fun u=>(B0.out _ (C.trans (d.trans u.gr))).2.2.2;have U6:∀u:GrW wp,u.val.cell? ⟨bb,ob+F,none⟩=some (.slice Al lt.length cl):=fun u=>(u.gr.cell _ _ (by have:=j.size;have:=d.size;omega)).trans ao;have UR:Hid (∀u:GrW wp,u.val.heap[w.heap.size+1]?=some (.cells #[.bool false] 4 (0,0))):=fun u=>R0.out _ (C.trans (d.trans u.gr));clear c0 a7 a8 a9 y0 h0 h1 h2 h3 bw ao rc rf ad;gi_wp2;refine gI (by kernel_rfl) (by kernel_rfl) (by kernel_rfl) ?_
       repeat
        (refine wpQuietIn_step (fun _ _ _ _=>trivial) (fun K G=>?_)
         go_simp
         first
           | (refine G _ ?_;clear G K)
           | (refine⟨_,fun _=>rfl,G _ ?_⟩;clear G K)
           | (apply Exists.intro
              refine⟨fun u=>?_,G _ ?_⟩
              (first|(gi_at_call 95;exact iN u (CallsIn.inRound l (callsIn_wide.2 ((Y.out _ u.gr).mono fun _ _ h=>⟨h.1,h.2 ▸ qj _⟩))))|(gi_at_call 96;exact iN u (CallsIn.inRound l (callsIn_wide.2 (aE.out _ u.gr)))))
              clear G K))
       refine wpQuietIn_nil ?_;intro w9 aB;obtain⟨u9,rfl⟩:=aB;have af:=UR.out u9;have bC:=cell_of_one af;have bD:=free_of_one af;have g6:=u9.gr;clear U0 U1 U2 U3 U4 U5 U6;cases th
       ·gi_wp2;refine⟨((y.trans g6).keeps.trans (KeepsOthers.setCell _ _ _)).from _,rfl,⟨it,by simp,by rw[Z.out,H.out];rfl⟩,?_,?_⟩
        ·exact Below.setCell (j.trans (d.trans g6)) (p:=⟨w.heap.size+1,0,none⟩) (by show w.heap.size<=w.heap.size+1;omega) _
        ·exact de (i:=0) (.bool false) af
       ·gi_wp2;go_roundw;case rel=>exact⟨m+1,by omega,by go_num,y.trans g6,by (show _=_;rw[Z.out,H.out,ab.out];simp)⟩
        case measure=>simp[intOf];omega
     ·have bp:(it.ins.op != 28)=true:=by simp[ho]
      have x7:wp.cell? ⟨Bx,7,none⟩=some (.int .i64 it.blk):=HX.out _ 7 y;have x8:wp.cell? ⟨Bx,8,none⟩=some (.int .i64 it.pos):=HX.out _ 8 y;have V:=KP.out _ d;obtain⟨h0,h1,h2,h3⟩:=crw4 V.2 0 1 2 3
      have H:Hid (Ref.argOk f (Ref.graph f) (Ref.reached (Ref.graph f) (-1)) it.blk it.pos it.ins z (it.ins.to.getD m 0)=Ir.isThere f (Ref.graph f) z it.blk it.pos):=by show _=_;rw[jA f _ z _ _ ak (by omega)];unfold Ref.argOk;rw[pC ho]
      have B:=dJ (aD.out z it.blk it.pos wp d aV ak bh ar.out);obtain⟨th,aj⟩:=xJ (Ir.isThere f (Ref.graph f) z it.blk it.pos);rw[aj]at H B;clear ho aj V
      cases th with
      | false =>
       gi_wp2_with (refine⟨trivial,?_⟩;gi_at_call 96;refine(CallsIn.inRound l (callsIn_wide.2 B.out)).mono ?_;rintro e w5 ⟨rfl,g5⟩;have ae:=R0.out _ (C.trans (d.trans g5));have bV:=cell_of_one ae;have bW:=free_of_one ae);refine⟨((y.trans g5).keeps.trans (KeepsOthers.setCell _ _ _)).from _,rfl,⟨it,by simp,by rw[Z.out,H.out];rfl⟩,?_,?_⟩
       ·exact Below.setCell (j.trans (d.trans g5)) (p:=⟨w.heap.size+1,0,none⟩) (by show w.heap.size<=w.heap.size+1;omega) _
       ·exact de (i:=0) (.bool false) ae
      | true =>
       gi_wp2_with (refine⟨trivial,?_⟩;gi_at_call 96;refine(CallsIn.inRound l (callsIn_wide.2 B.out)).mono ?_;rintro e w5 ⟨rfl,g5⟩);go_roundw;case rel=>exact⟨m+1,by omega,by go_num,y.trans g5,by (show _=_;rw[Z.out,H.out,ab.out];simp)⟩
       case measure=>simp[intOf];omega
 case hdone =>
  rintro D N hD ⟨ag,E⟩ G;have aA:=R0.out _ (C.trans E);have bC:=cell_of_one aA;have bD:=free_of_one aA;have a4:Hid ((Ir.items f).all (Ir.argsOk f (Ref.graph f))=true):=pw.2 ag;have HK:=dJ G;clear ag G;go_wp2;refine oD (w0:=w) (Br:=w.heap.size+1) (b:=true) (t:=2) rfl ((KeepsOthers.setCell _ _ _).same D _ HK.out rfl) rfl rfl (de (i:=0) (.bool true) aA) (Below.setCell (j.trans E) (p:=⟨w.heap.size+1,0,none⟩) (by show w.heap.size<=w.heap.size+1;omega) _) (by omega) ?_;exact fun w' g=>⟨dc (by rw[a4.out]),g⟩
 case hstop =>
  rintro D c O N hD aM ⟨rfl,⟨it,hm,aL⟩,hB,bi⟩ G;have HF:Hid ((Ir.items f).all (Ir.argsOk f (Ref.graph f))=false):=List.all_eq_false.2 ⟨it,aM.subset hm,by simp[aL]⟩;have HK:=dJ G;clear G hm aL;go_wp2;refine oD (w0:=w) (Br:=w.heap.size+1) (b:=false) (t:=2) rfl HK.out rfl rfl bi hB (by omega) ?_;exact fun w' g=>⟨dc (by rw[HF.out]),g⟩
attribute [local go_sem] Oper.semAt_some
theorem dG (fn:Func)(tmps:Array Value)(t:Nat)(w:World)(Br:Nat)(b:Int)(h:fn.results=#[.cell t 28])(ht:tmps[t]?.getD undef=.pointer (some ⟨Br,0,none⟩))(hc:w.cell? ⟨Br,0,none⟩=some (.int .i64 b)) :
  (results fn tmps).run prog w=.ok (.int .i64 b) w:=by simp[results,h,ht,go_sem,hc]
theorem oz {fn:Func}{R:Ending->World->Prop}{a:Act}{w w0:World}{D Br t:Nat}{b:Int}(hd:a.defers=[{target:=.collected D,args:=#[]}])(hK:w.heap[D]?=some (.deferred (some [])))(hf:fn.results=#[.cell t 28])(ht:a.tmps[t]?.getD undef=.pointer (some ⟨Br,0,none⟩))
  (hb:w.heap[Br]?=some (.cells #[.int .i64 b] 28 (0,0))) (hw:Below w0.heap.size w0 w) (hD:w0.heap.size<=D) (hR:∀w',Gr w0 w'->R (.returned (.int .i64 b)) w'):bodyPostM Fence.wide 5 prog fn R .ret a w:=by
 have g:Br≠D:=fun e=>by rw[e,hK]at hb;cases hb
 have d:(w.putObj D (.deferred none)).heap[Br]?=some (.cells #[.int .i64 b] 28 (0,0)):=(World.putObj_heap_other g).trans hb;refine oJ hd hK (dG fn a.tmps t _ Br b hf ht (cell_of_one d)) (hR _ ?_);exact Below.trans hw (belowK_b (w:=w0) (pS _) w D _ _ hD hK rfl rfl)
theorem nX {fn:Func}{R:Ending->World->Prop}{a:Act}{w w0:World}{D D2 Br t:Nat}{b:Int}(hd:a.defers=[{target:=.collected D2,args:=#[]},{target:=.collected D,args:=#[]}])(hK2:w.heap[D2]?=some (.deferred (some [])))(hK:w.heap[D]?=some (.deferred (some [])))(hDD:D≠D2)(hf:fn.results=#[.cell t 28])(ht:a.tmps[t]?.getD undef=.pointer (some ⟨Br,0,none⟩))
  (hb:w.heap[Br]?=some (.cells #[.int .i64 b] 28 (0,0))) (hw:Below w0.heap.size w0 w) (hD:w0.heap.size<=D) (hD2:w0.heap.size<=D2) (hR:∀w',Gr w0 w'->R (.returned (.int .i64 b)) w'):bodyPostM Fence.wide 5 prog fn R .ret a w:=by
 have l:Br≠D:=fun e=>by rw[e,hK]at hb;cases hb
 have g:Br≠D2:=fun e=>by rw[e,hK2]at hb;cases hb
 have d:(w.putObj D2 (.deferred none)).heap[D]?=some (.deferred (some [])):=(World.putObj_heap_other hDD).trans hK;have j:((w.putObj D2 (.deferred none)).putObj D (.deferred none)).heap[Br]?=some (.cells #[.int .i64 b] 28 (0,0)):=(World.putObj_heap_other l).trans ((World.putObj_heap_other g).trans hb);show LeavesInM Fence.wide 5 prog fn a.tmps R a.defers .returning w;rw[hd];refine jD hK2 (jD d (jC (dG fn a.tmps t _ Br b hf ht (cell_of_one j)) (hR _ ?_)));exact Below.trans (Below.trans hw (belowK_b (w:=w0) (pS _) w D2 _ _ hD2 hK2 rfl rfl)) (belowK_b (w:=w0) (pS _) (w.putObj D2 (.deferred none)) D _ _ hD d rfl rfl)
theorem mR {f:Fn}{x:Ins}(h:Ref.argument f x=true):(Ir.classOf x.op=3->2<=x.args.length)/\(Ir.classOf x.op=4->3<=x.args.length)/\(Ir.classOf x.op=5->1<=x.args.length)/\(Ir.classOf x.op=6->1<=x.args.length)/\(Ir.classOf x.op=11->2<=x.args.length)/\(Ir.classOf x.op=12->1<=x.args.length)/\(Ir.classOf x.op=13->2<=x.args.length)/\(Ir.classOf x.op=16->1<=x.args.length):=by
 obtain⟨g,d⟩:=lj h;by_cases l:x.op<0\/32<x.op
 ·rw[gC f x l]at d;cases d
 rcases (by omega:x.op=0\/(1<=x.op/\x.op<=13)\/x.op=14\/x.op=15\/x.op=16\/x.op=17\/x.op=18\/x.op=19\/x.op=20\/x.op=21\/x.op=22\/x.op=23\/x.op=24\/x.op=25\/x.op=26\/x.op=27\/x.op=28\/x.op=29\/x.op=30\/x.op=31\/x.op=32) with h|h|h|h|h|h|h|h|h|h|h|h|h|h|h|h|h|h|h|h|h
 case inr.inl =>
  have j:Ir.classOf x.op=2:=by rcases (by omega:x.op=1\/x.op=2\/x.op=3\/x.op=4\/x.op=5\/x.op=6\/x.op=7\/x.op=8\/x.op=9\/x.op=10\/x.op=11\/x.op=12\/x.op=13) with e|e|e|e|e|e|e|e|e|e|e|e|e;all_goals (rw[e];rfl)
  rw[j];simp
 all_goals (rw[h];simp[Ref.shape,h]at g;simp[Ir.classOf];try omega)
theorem gK {f:Fn}(h:¬(3<f.params.length\/2<f.slots.length\/f.blocks.length<1\/10<f.blocks.length))(ht:¬40<Ref.total f.blocks) :
  Ref.validate f=if Ir.isHead f=false then 1 else if f.blocks.all (fun l=>l.all (Ref.argument f))=false then 1 else if Ref.rules f=false then 7 else if f.blocks.all (fun l=>l.all (Ref.typed f))=false then 6 else if Ref.stated f=false then 9 else 0:=by
 unfold Ref.validate;rw[pC h,pC ht];unfold Ir.isHead;by_cases d:f.ret<0\/32<f.ret
 ·rw[pB d,pB];rcases d with d|d<;>simp<;>omega
 ·rw[pC d];have g:decide (0<=f.ret)=true:=by simp;omega
  have j:decide (f.ret<=32)=true:=by simp;omega
  rw[g,j];cases f.params.all Ref.isWidth<;>cases f.slots.all Ref.isSlot<;>simp
theorem mY (v:Value)(f:Fn)(w:World)(hf:FnAt w.heap.size w v f)(hs:f.blocks.length<=100000)(hln:Hid (∀l∈f.blocks,l.length<=100000))(hwf:Hid (∀l∈f.blocks,∀x∈l,WfI x))(hfl:Hid (∀l∈f.blocks,∀x∈l,-9223372036854775808<=x.flags/\x.flags<=9223372036854775807)) :
  Calls prog 28 #[v] w (RG (.int .i64 (Ref.validate f)) w):=by
 have ah:=hf;have aC:Hid (∀y,Gr w y->Calls prog 48 #[v] y (RG (.int .i64 (Ref.total f.blocks)) y)):=fun y q=>kd v f y (hf.gr q) hs;have az:Hid (∀y,Gr w y->Calls prog 49 #[v] y (RG (.bool (Ir.isHead f)) y)):=fun y q=>ko v f y (hf.gr q);obtain⟨vp,vs,vb,rfl,hp,ba,hb⟩:=hf;obtain⟨Ap,cp,rfl,bl,bm,-⟩:=hp;obtain⟨R,U,rfl,bo,a9,-⟩:=ba;obtain⟨Q,T,rfl,bi,bj,-⟩:=hb;obtain⟨W,hW⟩:=xJ ((w.alloc (.cells #[.slice Ap f.params.length cp,.int .i64 f.ret,.slice R f.slots.length U,.slice Q f.blocks.length T] 25)).alloc (.cells #[.int .i64 0] 28));have F:Gr w W:=by rw[<-hW];exact((qj w).alloc _).alloc _
 have bh:W.heap.size=w.heap.size+2:=by rw[<-hW];simp
 have g0:Gr (w.alloc (.cells #[.slice Ap f.params.length cp,.int .i64 f.ret,.slice R f.slots.length U,.slice Q f.blocks.length T] 25)) W:=by rw[<-hW];exact(qj _).alloc _
 have B0:Hid (∀w',Gr W w'->w'.cell? ⟨w.heap.size,0,none⟩=some (.slice Ap f.params.length cp)/\w'.cell? ⟨w.heap.size,1,none⟩=some (.int .i64 f.ret)/\w'.cell? ⟨w.heap.size,2,none⟩=some (.slice R f.slots.length U)/\w'.cell? ⟨w.heap.size,3,none⟩=some (.slice Q f.blocks.length T)) :=
  fun w' q=>⟨(q.cell _ _ (by omega)).trans (dg _ _ 0 g0 rfl),(q.cell _ _ (by omega)).trans (dg _ _ 1 g0 rfl),(q.cell _ _ (by omega)).trans (dg _ _ 2 g0 rfl),(q.cell _ _ (by omega)).trans (dg _ _ 3 g0 rfl)⟩
 have aJ:W.heap[w.heap.size+1]?=some (.cells #[.int .i64 0] 28 (0,0)):=by rw[<-hW];exact heap_alloc2_new w _ _
 have R0:Hid (∀w',Gr W w'->w'.heap[w.heap.size+1]?=some (.cells #[.int .i64 0] 28 (0,0))):=fun w' q=>(q.heap _ (by omega)).trans aJ;have aN:Hid (∀y,Calls prog 50 #[.agg #[.slice Ap f.params.length cp,.int .i64 f.ret,.slice R f.slots.length U,.slice Q f.blocks.length T]] y fun e w'=>e=.returned (.func (.func 81) #[] #[.pointer (some ⟨y.heap.size,0,none⟩)])/\w'=y.alloc (.cells #[.slice Ap f.params.length cp,.int .i64 f.ret,.slice R f.slots.length U,.slice Q f.blocks.length T] 25)):=fun y=>iF f Ap R Q _ _ _ cp U T y;refine(callsIn_wide (n:=5)).1 ?_;refine callsIn_of_wp_marks func28 rfl trivial ?_ rfl;simp only[ntmps28,List.size_toArray,List.length_cons,List.length_nil,Nat.reduceAdd,Nat.reduceSub,Array.replicate_succ,Array.replicate_zero,List.push_toArray,List.append_toArray,List.nil_append,List.cons_append];refine wpIn_wide.2 ?_;obtain⟨k0,k1,k2,k3⟩:=B0.out W (qj _);have rc:=cell_of_one aJ;have rf:=free_of_one aJ;have bt:=F.size;clear g0;by_cases z:3<f.params.length\/2<f.slots.length\/f.blocks.length<1\/10<f.blocks.length
 ·have HV:Hid (Ref.validate f=3):=by show _=_;unfold Ref.validate;rw[pB z]
  have HF:Hid (∀w',(W.setCell ⟨w.heap.size+1,0,none⟩ (.int .i64 3))=w'->w'.cell? ⟨w.heap.size+1,0,none⟩=some (.int .i64 3)/\Gr w w'):=by rintro w' rfl;exact⟨World.cell?_setCell_same' _ _ _ (by rw[rc];rfl),F.setCell (by show w.heap.size<=w.heap.size+1;omega) _⟩
  rcases pF 3 f.params.length with a1|a1
  ·have b1:(3:Int)<f.params.length:=by omega
   clear z;go_wp2;refine mj rfl (dG _ _ 2 _ _ 3 rfl rfl (HF.out _ rfl).1) ⟨df (by rw[HV.out]),(HF.out _ rfl).2⟩
  have b1:(f.params.length:Int)<=3:=by omega
  rcases pF 2 f.slots.length with a2|a2
  ·have b2:(2:Int)<f.slots.length:=by omega
   clear z;go_wp2;refine mj rfl (dG _ _ 2 _ _ 3 rfl rfl (HF.out _ rfl).1) ⟨df (by rw[HV.out]),(HF.out _ rfl).2⟩
  have b2:(f.slots.length:Int)<=2:=by omega
  rcases pF f.blocks.length 1 with a3|a3
  ·have b3:(f.blocks.length:Int)<1:=by omega
   clear z;go_wp2;refine mj rfl (dG _ _ 2 _ _ 3 rfl rfl (HF.out _ rfl).1) ⟨df (by rw[HV.out]),(HF.out _ rfl).2⟩
  have b3:(1:Int)<=f.blocks.length:=by omega
  have b4:(10:Int)<f.blocks.length:=by omega
  clear z;go_wp2;refine mj rfl (dG _ _ 2 _ _ 3 rfl rfl (HF.out _ rfl).1) ⟨df (by rw[HV.out]),(HF.out _ rfl).2⟩
 have b1:(f.params.length:Int)<=3:=by omega
 have b2:(f.slots.length:Int)<=2:=by omega
 have b3:(1:Int)<=f.blocks.length:=by omega
 have b4:(f.blocks.length:Int)<=10:=by omega
 by_cases ht:40<Ref.total f.blocks
 ·have HV:Hid (Ref.validate f=3):=by show _=_;unfold Ref.validate;rw[pC z,pB ht]
  have bb:(40:Int)<Ref.total f.blocks:=by omega
  clear z ht;go_wp2_with (go_at_call 48;refine(aC.out _ F).mono ?_;rintro e y ⟨rfl,g1⟩;have al:=R0.out _ g1;have aM:=cell_of_one al;have bd:=free_of_one al);refine mj rfl (dG _ _ 2 _ _ 3 rfl rfl (World.cell?_setCell_same' _ _ _ (by rw[aM];rfl))) ⟨df (by rw[HV.out]),(F.trans g1).setCell (by show w.heap.size<=w.heap.size+1;omega) _⟩
 have HV:=dJ (gK z ht);have bb:(Ref.total f.blocks:Int)<=40:=by omega
 have aT:(Ir.items f).length<=1000000:=by rw[eO];omega
 have HB:Hid (1<=f.blocks.length/\f.blocks.length<=10):=⟨by omega,by omega⟩;clear z ht;obtain⟨hd,aG⟩:=xJ (Ir.isHead f);have aO:=dJ aG;rw[aG]at az HV;clear aG
 cases hd with
 | false =>
  go_wp2_with (first|(go_at_call 48;refine(aC.out _ F).mono ?_;rintro e y ⟨rfl,g1⟩;obtain⟨l0,l1,l2,l3⟩:=B0.out _ g1)|(go_at_call 49;refine(az.out _ (F.trans g1)).mono ?_;rintro e w2 ⟨rfl,g2⟩;have al:=R0.out _ (g1.trans g2);have aM:=cell_of_one al;have bd:=free_of_one al));refine mj rfl (dG _ _ 2 _ _ 1 rfl rfl (World.cell?_setCell_same' _ _ _ (by rw[aM];rfl))) ⟨df (by rw[HV.out];rfl),(F.trans (g1.trans g2)).setCell (by show w.heap.size<=w.heap.size+1;omega) _⟩
 | true =>
  have ay:0<=f.ret:=by have:=aO.out;unfold Ir.isHead at this;simp only[pD,decide_eq_true_eq]at this;exact this.1.1.2
  have a4:Hid (∀it∈Ir.items f,Ir.isShaped f it.ins=Ref.argument f it.ins):=by intro it hm;obtain⟨l,e1,e2⟩:=fz f it hm;have:=hfl.out l (pa e1) _ (pa e2);exact jx f it.ins ay this.1 this.2
  have a5:Hid (∀it∈Ir.items f,WfI it.ins):=by intro it hm;obtain⟨l,e1,e2⟩:=fz f it hm;exact hwf.out l (pa e1) _ (pa e2)
  clear ay;go_wp2_with (first|(go_at_call 48;refine(aC.out _ F).mono ?_;rintro e y ⟨rfl,g1⟩;obtain⟨l0,l1,l2,l3⟩:=B0.out _ g1)|(go_at_call 49;refine(az.out _ (F.trans g1)).mono ?_;rintro e w2 ⟨rfl,g2⟩;obtain⟨m0,m1,m2,m3⟩:=B0.out _ (g1.trans g2))|(go_at_call 50;refine(aN.out _).mono ?_;rintro e w3 ⟨rfl,rfl⟩));have aS:Gr W w2:=g1.trans g2;obtain⟨W0,an⟩:=xJ (w2.alloc (.cells #[.slice Ap f.params.length cp,.int .i64 f.ret,.slice R f.slots.length U,.slice Q f.blocks.length T] 25));have m:Gr W W0:=by rw[<-an];exact aS.alloc _
  have V:Gr w W0:=F.trans m;have bp:W0.heap.size<=w2.heap.size+1/\w2.heap.size+1<=W0.heap.size:=by rw[<-an];simp
  have av:∀o,W0.cell? ⟨w2.heap.size,o,none⟩=(#[.slice Ap f.params.length cp,.int .i64 f.ret,.slice R f.slots.length U,.slice Q f.blocks.length T]:Array Value)[o]?:=by intro o;rw[<-an];exact px _ _ _ _ _ _ (heap_alloc_new w2 _)
  have bq:=V.size;rw[an];clear l0 l1 l2 l3 m0 m1 m2 m3 k0 k1 k2 k3 rc rf
  refine fC (w:=w) (f:=f) (q:=3) (Bf:=w2.heap.size) rfl ah V hs (by omega) (av 0) (av 3) (fun B C=>(∀it∈B,it∈Ir.items f/\Ref.argument f it.ins=true)/\Gr W0 C)
   (fun c B C=>c=.ret/\(∃it∈B,Ref.argument f it.ins=false)/\Below w.heap.size w C/\C.heap[w.heap.size+1]?=some (.cells #[.int .i64 1] 28 (0,0)))
   (OwnFrom.and (ownFrom_pure _ _) (eZ W0)) (fun c=>OwnFrom.and (ownFrom_pure _ _) (OwnFrom.and (ownFrom_pure _ _) (OwnFrom.and (ownFrom_below (pS _) (by omega)) (eA _ _ _)))) (fun B C h=>h.2.size) ⟨fun it h=>by simp at h,qj _⟩ ?hassign ?hbody ?hdone ?hstop
  case hassign =>
   intro l it aa ta ca ct C K J;simp only[pO,List.set_cons_succ,List.set_cons_zero,jn,mn]at J ⊢;gi_wp2;exact J
  case hbody =>
   rintro l B it aa ta ca ct C Bx ⟨N,r⟩ aW aX I aI a6 Z;simp only[pO,List.set_cons_succ,List.set_cons_zero,jn];have hX:∀o,C.cell? ⟨Bx,o,none⟩=(mn it aa ta ca ct)[o]?:=fun o=>px _ _ _ _ _ _ Z;have x0:C.cell? ⟨Bx,0,none⟩=some (.int .i64 it.ins.op):=hX 0;have x1:C.cell? ⟨Bx,1,none⟩=some (.int .i64 it.ins.width):=hX 1;have x2:C.cell? ⟨Bx,2,none⟩=some (.int .i64 it.ins.flags):=hX 2;have x3:C.cell? ⟨Bx,3,none⟩=some (.slice aa it.ins.args.length ca):=hX 3;have x4:C.cell? ⟨Bx,4,none⟩=some (.int .u32 it.ins.imm):=hX 4;have x5:C.cell? ⟨Bx,5,none⟩=some (.slice ta it.ins.to.length ct):=hX 5;have ao:=a5.out it I
   have HC:Hid (Calls prog 51 #[.agg #[.slice Ap f.params.length cp,.int .i64 f.ret,.slice R f.slots.length U,.slice Q f.blocks.length T],.agg #[.int .i64 it.ins.op,.int .i64 it.ins.width,.int .i64 it.ins.flags,.slice aa it.ins.args.length ca,.int .u32 it.ins.imm,.slice ta it.ins.to.length ct]] C (RG (.bool (Ref.argument f it.ins)) C)):=by rw[<-a4.out it I];exact iR f it.ins _ R aa ta Q U ca ct T C ⟨ao.1.1,ao.1.2,a9,by have:=ao.2.2.2;omega⟩ (aX.gr (V.trans r))
   obtain⟨m0,m1,m2,m3⟩:=B0.out _ (m.trans r);have HM:Hid (it∈Ir.items f):=I;have a8:=r.size;obtain⟨ag,ab⟩:=xJ (Ref.argument f it.ins);have ae:=dJ ab;rw[ab]at HC;clear hX I aI Z ab ao
   cases ag with
   | false =>
    gi_wp2_with (refine⟨trivial,?_⟩;gi_at_call 51;refine(CallsIn.inRound l (callsIn_wide.2 HC.out)).mono ?_;rintro e w5 ⟨rfl,L⟩;have d:=R0.out _ (m.trans (r.trans L));have ap:=cell_of_one d;have aq:=free_of_one d);refine⟨(L.keeps.trans (KeepsOthers.setCell _ _ _)).from _,rfl,⟨it,by simp,ae.out⟩,?_,?_⟩
    ·exact Below.setCell (V.trans (r.trans L)) (p:=⟨w.heap.size+1,0,none⟩) (by show w.heap.size<=w.heap.size+1;omega) _
    ·exact de (i:=0) (.int .i64 1) d
   | true =>
    gi_wp2_with (refine⟨trivial,?_⟩;gi_at_call 51;refine(CallsIn.inRound l (callsIn_wide.2 HC.out)).mono ?_;rintro e w5 ⟨rfl,L⟩);refine⟨L.keeps.from _,Below.mono L (by omega),?_,r.trans L⟩;intro aL aH;rcases pI.1 aH with h|h
    ·exact N aL h
    ·simp at h;subst h;exact⟨HM.out,ae.out⟩
  case hstop =>
   rintro D c B C hD ak ⟨rfl,⟨it,hm,aj⟩,hB,aF⟩ J
   have HF:Hid (f.blocks.all (fun l=>l.all (Ref.argument f))=false):=by show _=_;rw[<-fx];exact List.all_eq_false.2 ⟨it,ak.subset hm,by simp[aj]⟩
   have HK:=dJ J;clear J hm aj;go_wp2;refine oz (w0:=w) (Br:=w.heap.size+1) (b:=1) (t:=2) rfl HK.out rfl rfl aF hB (by omega) ?_;exact fun w' g=>⟨df (by rw[HV.out,HF.out];rfl),g⟩
  case hdone =>
   rintro D C hD ⟨N,r⟩ J
   have ar:Hid (f.blocks.all (fun l=>l.all (Ref.argument f))=true):=by show _=_;rw[<-fx];exact pw.2 fun it h=>(N it h).2
   have HA:Hid (∀l∈f.blocks,∀x∈l,Ref.argument f x=true):=jT ar.out;have ad:Hid (Ref.validate f=if Ref.rules f=false then 7 else if f.blocks.all (fun l=>l.all (Ref.typed f))=false then 6 else if Ref.stated f=false then 9 else 0):=by show _=_;rw[HV.out,ar.out];rfl
   have aB:Hid (∀y,Gr w y->Calls prog 52 #[.agg #[.slice Ap f.params.length cp,.int .i64 f.ret,.slice R f.slots.length U,.slice Q f.blocks.length T]] y (RG (.bool (Ref.rules f)) y)):=by rw[<-lQ];exact fun y q=>kq _ f y (ah.gr q) HB.out.1 HB.out.2 HA
   have am:Hid (∀w',Gr C w'->w'.heap[D]?=some (.deferred (some []))):=fun w' q=>(q.heap D (pf.1 J).1).trans J;have bg:D<C.heap.size:=(pf.1 J).1;obtain⟨m0,m1,m2,m3⟩:=B0.out _ (m.trans r);have ac:Gr w C:=V.trans r;obtain⟨ru,aK⟩:=xJ (Ref.rules f);have aQ:=dJ aK;rw[aK]at ad aB;clear N J aK
   cases ru with
   | false =>
    go_wp2_with (go_at_call 52;refine(aB.out _ ac).mono ?_;rintro e w5 ⟨rfl,L⟩;have d:=R0.out _ (m.trans (r.trans L));have ap:=cell_of_one d;have aq:=free_of_one d);refine oz (w0:=w) (Br:=w.heap.size+1) (b:=7) (t:=2) rfl ((KeepsOthers.setCell _ _ _).same D _ (am.out _ L) rfl) rfl rfl (de (i:=0) (.int .i64 7) d) (Below.setCell (ac.trans L) (p:=⟨w.heap.size+1,0,none⟩) (by show w.heap.size<=w.heap.size+1;omega) _) (by omega) ?_;exact fun w' g=>⟨df (by rw[ad.out];rfl),g⟩
   | true =>
    have bk:Hid (∀l∈f.blocks,l≠[]):=iz aQ.out
    have HL:Hid (f.blocks.all Ref.laid=true):=by have:=aQ.out;unfold Ref.rules at this;simp only[pD]at this;exact this.1.1
    have aZ:Hid (∀y,Gr w y->Calls prog 53 #[.agg #[.slice Ap f.params.length cp,.int .i64 f.ret,.slice R f.slots.length U,.slice Q f.blocks.length T]] y fun e w'=>∃A c,e=.returned (.slice A (Ir.kinds f).length c)/\Hid (IntsAt w'.heap.size w' (.slice A (Ir.kinds f).length c) (Ir.kinds f))/\Gr y w'):=by intro y q;refine(lR _ f y (ah.gr q) hs aT (by omega)).mono ?_;rintro e w' ⟨u,q1,q2,q3⟩;have bc:=q2;obtain⟨A,c,rfl,-,-,-⟩:=q2;exact⟨A,c,q1,bc,q3⟩
    go_wp2_with (first|(go_at_call 52;refine(aB.out _ ac).mono ?_;rintro e w5 ⟨rfl,L⟩;obtain⟨n0,n1,n2,n3⟩:=B0.out _ (m.trans (r.trans L)))|(go_at_call 53;refine(aZ.out _ (ac.trans L)).mono ?_;rintro e w6 ⟨A6,c6,rfl,aY,g6⟩;have p0:∀o,(w6.alloc o).cell? ⟨w.heap.size,0,none⟩=some (.slice Ap f.params.length cp):=fun o=>(B0.out _ (m.trans (r.trans (L.trans (g6.alloc o))))).1;have p1:∀o,(w6.alloc o).cell? ⟨w.heap.size,1,none⟩=some (.int .i64 f.ret):=fun o=>(B0.out _ (m.trans (r.trans (L.trans (g6.alloc o))))).2.1;have p2:∀o,(w6.alloc o).cell? ⟨w.heap.size,2,none⟩=some (.slice R f.slots.length U):=fun o=>(B0.out _ (m.trans (r.trans (L.trans (g6.alloc o))))).2.2.1;have p3:∀o,(w6.alloc o).cell? ⟨w.heap.size,3,none⟩=some (.slice Q f.blocks.length T):=fun o=>(B0.out _ (m.trans (r.trans (L.trans (g6.alloc o))))).2.2.2)|(go_at_call 50;refine(aN.out _).mono ?_;rintro e w7 ⟨rfl,rfl⟩))
    have ax:Gr C w6:=L.trans g6;obtain⟨W1,af⟩:=xJ ((w6.alloc (.cells #[.slice A6 (Ir.kinds f).length c6] 22)).alloc (.cells #[.slice Ap f.params.length cp,.int .i64 f.ret,.slice R f.slots.length U,.slice Q f.blocks.length T] 25));have ai:Gr w6 W1:=by rw[<-af];exact((qj _).alloc _).alloc _
    have G:Gr W W1:=m.trans (r.trans (ax.trans ai));have H:Gr w W1:=F.trans G;have M:Gr C W1:=ax.trans ai;have be:W1.heap.size<=w6.heap.size+2/\w6.heap.size+2<=W1.heap.size:=by rw[<-af];simp
    have aw:∀o,W1.cell? ⟨w6.heap.size+1,o,none⟩=(#[.slice Ap f.params.length cp,.int .i64 f.ret,.slice R f.slots.length U,.slice Q f.blocks.length T]:Array Value)[o]?:=by intro o;rw[<-af];exact px _ _ _ _ _ _ (heap_alloc2_new w6 _ _)
    have aU:W1.heap[w6.heap.size]?=some (.cells #[.slice A6 (Ir.kinds f).length c6] 22 (0,0)):=by rw[<-af];exact heap_alloc2_old w6 _ _
    have KB:Hid (∀w',Gr W1 w'->w'.heap[w6.heap.size]?=some (.cells #[.slice A6 (Ir.kinds f).length c6] 22 (0,0))):=fun w' q=>(q.heap _ (by omega)).trans aU;have a0:Hid (∀w',Gr W1 w'->IntsAt w'.heap.size w' (.slice A6 (Ir.kinds f).length c6) (Ir.kinds f)):=fun w' q=>aY.out.gr (ai.trans q);have br:=H.size;have bf:=M.size;rw[af];clear n0 n1 n2 n3 m0 m1 m2 m3 p0 p1 p2 p3 aU
    refine fC (w:=w) (f:=f) (q:=5) (Bf:=w6.heap.size+1) rfl ah H hs (by omega) (aw 0) (aw 3) (fun B E=>(∀it∈B,Ref.typed f it.ins=true)/\Gr W1 E)
     (fun c B E=>c=.ret/\(∃it∈B,Ref.typed f it.ins=false)/\Below w.heap.size w E/\E.heap[w.heap.size+1]?=some (.cells #[.int .i64 6] 28 (0,0))/\E.heap[D]?=some (.deferred (some [])))
     (OwnFrom.and (ownFrom_pure _ _) (eZ W1)) (fun c=>OwnFrom.and (ownFrom_pure _ _) (OwnFrom.and (ownFrom_pure _ _) (OwnFrom.and (ownFrom_below (pS _) (by omega)) (OwnFrom.and (eA _ _ _) ?hD)))) (fun B E h=>h.2.size) ⟨fun it h=>by simp at h,qj _⟩ ?hassign2 ?hbody2 ?hdone2 ?hstop2
    case hD =>
     intro s X Y row h hg hr;refine(hg.block D (pf.1 h).1 (fun e=>?_)).trans h;have:=(hr D e.symm).1;omega
    case hassign2 =>
     intro l it aa ta ca ct E K J;simp only[pO,List.set_cons_succ,List.set_cons_zero,jn,mn]at J ⊢;gi_wp2;exact J
    case hbody2 =>
     rintro l B it aa ta ca ct E Bx ⟨N,j⟩ aW aX I aI a6 Z;simp only[pO,List.set_cons_succ,List.set_cons_zero,jn];have hX:∀o,E.cell? ⟨Bx,o,none⟩=(mn it aa ta ca ct)[o]?:=fun o=>px _ _ _ _ _ _ Z;have x0:E.cell? ⟨Bx,0,none⟩=some (.int .i64 it.ins.op):=hX 0;have x1:E.cell? ⟨Bx,1,none⟩=some (.int .i64 it.ins.width):=hX 1;have x2:E.cell? ⟨Bx,2,none⟩=some (.int .i64 it.ins.flags):=hX 2;have x3:E.cell? ⟨Bx,3,none⟩=some (.slice aa it.ins.args.length ca):=hX 3;have x4:E.cell? ⟨Bx,4,none⟩=some (.int .u32 it.ins.imm):=hX 4;have x5:E.cell? ⟨Bx,5,none⟩=some (.slice ta it.ins.to.length ct):=hX 5;obtain⟨lb,e1,e2⟩:=fz f it I;have aE:=HA.out lb (pa e1) it.ins (pa e2)
     have HC:Hid (Calls prog 54 #[.agg #[.slice Ap f.params.length cp,.int .i64 f.ret,.slice R f.slots.length U,.slice Q f.blocks.length T],.agg #[.int .i64 it.ins.op,.int .i64 it.ins.width,.int .i64 it.ins.flags,.slice aa it.ins.args.length ca,.int .u32 it.ins.imm,.slice ta it.ins.to.length ct],.slice A6 (Ir.kinds f).length c6] E (RG (.bool (Ref.typed f it.ins)) E)):=by rw[<-nB f it.ins aE];exact kw f it.ins (Ir.kinds f) _ _ _ aa ta A6 ca ct c6 E (aW.gr (H.trans j)) (a0.out _ j) (mR aE)
     obtain⟨m0,m1,m2,m3⟩:=B0.out _ (G.trans j);have kb:=cell_of_one (KB.out _ j);have a8:=j.size;obtain⟨ag,ab⟩:=xJ (Ref.typed f it.ins);have ae:=dJ ab;rw[ab]at HC;clear hX I aI Z ab aE e1 e2
     cases ag with
     | false =>
      gi_wp2_with (refine⟨trivial,?_⟩;gi_at_call 54;refine(CallsIn.inRound l (callsIn_wide.2 HC.out)).mono ?_;rintro e w9 ⟨rfl,O⟩;have d:=R0.out _ (G.trans (j.trans O));have ap:=cell_of_one d;have aq:=free_of_one d);refine⟨(O.keeps.trans (KeepsOthers.setCell _ _ _)).from _,rfl,⟨it,by simp,ae.out⟩,?_,?_,?_⟩
      ·exact Below.setCell (H.trans (j.trans O)) (p:=⟨w.heap.size+1,0,none⟩) (by show w.heap.size<=w.heap.size+1;omega) _
      ·exact de (i:=0) (.int .i64 6) d
      ·exact(KeepsOthers.setCell _ _ _).same D _ (am.out _ (M.trans (j.trans O))) rfl
     | true =>
      gi_wp2_with (refine⟨trivial,?_⟩;gi_at_call 54;refine(CallsIn.inRound l (callsIn_wide.2 HC.out)).mono ?_;rintro e w9 ⟨rfl,O⟩);refine⟨O.keeps.from _,Below.mono O (by omega),?_,j.trans O⟩;intro aL aH;rcases pI.1 aH with h|h
      ·exact N aL h
      ·simp at h;subst h;exact ae.out
    case hstop2 =>
     rintro D2 c B E a7 ak ⟨rfl,⟨it,hm,aj⟩,hB,aF,aR⟩ J
     have HF:Hid (f.blocks.all (fun l=>l.all (Ref.typed f))=false):=by show _=_;rw[<-fx];exact List.all_eq_false.2 ⟨it,ak.subset hm,by simp[aj]⟩
     have HK:=dJ J;have aP:=dJ aR;clear J hm aj aR;go_wp2;refine nX (w0:=w) (Br:=w.heap.size+1) (b:=6) (t:=2) rfl HK.out aP.out (by omega) rfl rfl aF hB (by omega) (by omega) ?_;exact fun w' g=>⟨df (by rw[ad.out,HF.out];rfl),g⟩
    case hdone2 =>
     rintro D2 E a7 ⟨N,j⟩ J
     have aD:Hid (f.blocks.all (fun l=>l.all (Ref.typed f))=true):=by show _=_;rw[<-fx];exact pw.2 N
     have HT:Hid (∀l∈f.blocks,∀x∈l,Ref.typed f x=true):=fun l hl x hx=>pw.1 (pw.1 aD.out l hl) x hx
     have aA:Hid (Calls prog 55 #[.agg #[.slice Ap f.params.length cp,.int .i64 f.ret,.slice R f.slots.length U,.slice Q f.blocks.length T]] E (RG (.bool (Ref.stated f)) E)):=by rw[<-mD];exact il _ f E (ah.gr (H.trans j)) HB.out.1 HB.out.2 aT (by omega) hln HA HL HT
     have bn:=R0.out _ (G.trans j);obtain⟨m0,m1,m2,m3⟩:=B0.out _ (G.trans j);have au:Hid (∀w',Gr E w'->w'.heap[D2]?=some (.deferred (some []))):=fun w' q=>(q.heap D2 (pf.1 J).1).trans J;obtain⟨st,aV⟩:=xJ (Ref.stated f);rw[aV]at aA ad;clear N J aV;cases st
     ·go_wp2_with (go_at_call 55;refine aA.out.mono ?_;rintro e w9 ⟨rfl,O⟩;have d:=R0.out _ (G.trans (j.trans O));have ap:=cell_of_one d;have aq:=free_of_one d);refine nX (w0:=w) (Br:=w.heap.size+1) (b:=9) (t:=2) rfl ((KeepsOthers.setCell _ _ _).same D2 _ (au.out _ O) rfl) ((KeepsOthers.setCell _ _ _).same D _ (am.out _ (M.trans (j.trans O))) rfl) (by omega) rfl rfl (de (i:=0) (.int .i64 9) d) (Below.setCell (H.trans (j.trans O)) (p:=⟨w.heap.size+1,0,none⟩) (by show w.heap.size<=w.heap.size+1;omega) _) (by omega) (by omega) ?_;exact fun w' g=>⟨df (by rw[ad.out,aD.out];rfl),g⟩
     ·go_wp2_with (go_at_call 55;refine aA.out.mono ?_;rintro e w9 ⟨rfl,O⟩;have d:=R0.out _ (G.trans (j.trans O));have ap:=cell_of_one d;have aq:=free_of_one d);refine nX (w0:=w) (Br:=w.heap.size+1) (b:=0) (t:=2) rfl ((KeepsOthers.setCell _ _ _).same D2 _ (au.out _ O) rfl) ((KeepsOthers.setCell _ _ _).same D _ (am.out _ (M.trans (j.trans O))) rfl) (by omega) rfl rfl (de (i:=0) (.int .i64 0) d) (Below.setCell (H.trans (j.trans O)) (p:=⟨w.heap.size+1,0,none⟩) (by show w.heap.size<=w.heap.size+1;omega) _) (by omega) (by omega) ?_;exact fun w' g=>⟨df (by rw[ad.out,aD.out];rfl),g⟩
structure ia (f:Fn):Prop where
 blocks:f.blocks.length<=100000
 block:∀l∈f.blocks,l.length<=100000
 wf:∀l∈f.blocks,∀x∈l,WfI x
 flags:∀l∈f.blocks,∀x∈l,-9223372036854775808<=x.flags/\x.flags<=9223372036854775807
theorem eP (v:Value)(f:Fn)(w:World)(hf:FnAt w.heap.size w v f)(hn:ia f):Calls prog 28 #[v] w (RG (.int .i64 (Ref.validate f)) w) :=
 mY v f w hf hn.blocks hn.block hn.wf hn.flags
theorem gA (v:Value)(f:Fn)(w:World)(hf:FnAt w.heap.size w v f)(hn:ia f):Calls prog 30 #[v] w (RG (.int .i64 (Ref.validate f)) w) :=
 nt v f w hf hn.blocks hn.block hn.wf
theorem fm {f:Fn}(h:Ref.validate f=0):f.params.length<=3/\f.slots.length<=2/\1<=f.blocks.length/\f.blocks.length<=10/\Ref.total f.blocks<=40:=by
 unfold Ref.validate at h;split at h
 ·cases h
 split at h
 ·cases h
 omega
def Ref.countR (f:Fn):Int:=if Ref.validate f=0 then Ref.count f else 0
def Ref.valuedR (f:Fn)(v:Int):Int:=if Ref.validate f=0 then (if v<0\/(Ref.count f:Int)<=v then 4 else 0) else Ref.validate f
theorem iD (v:Value)(f:Fn)(w:World)(hf:FnAt w.heap.size w v f)(hn:ia f) :
  Calls prog 44 #[v] w (RG (.tuple #[.int .i64 (Ref.countR f),.int .i64 (Ref.validate f)]) w):=by
 have E:Hid (∀d,Gr w d->Calls prog 28 #[v] d (RG (.int .i64 (Ref.validate f)) d)):=fun d q=>eP v f d (hf.gr q) hn;have D:Hid (∀d,Gr w d->Calls prog 48 #[v] d (RG (.int .i64 (Ref.total f.blocks)) d)):=fun d q=>kd v f d (hf.gr q) hn.blocks;have z:Hid (Ref.countR f=if Ref.validate f=0 then (Ref.count f:Int) else 0):=by show _=_;rfl
 have j:Hid (Ref.validate f=0->f.params.length<=3/\Ref.total f.blocks<=40):=fun h=>by have:=fm h;omega
 have B:Hid ((Ref.count f:Int)=f.params.length+Ref.total f.blocks):=by show _=_;unfold Ref.count Ref.number;rw[pE];omega
 obtain⟨vp,vs,vb,rfl,Q,J,M⟩:=hf;obtain⟨m,u,rfl,R,T,-⟩:=Q;obtain⟨p,y,rfl,U,V,-⟩:=J;obtain⟨l,t,rfl,N,O,-⟩:=M;obtain⟨W,G⟩:=xJ (w.alloc (.cells #[.slice m f.params.length u,.int .i64 f.ret,.slice p f.slots.length y,.slice l f.blocks.length t] 25));have g:Gr w W:=by rw[<-G];exact(qj w).alloc _
 have g0:Gr (w.alloc (.cells #[.slice m f.params.length u,.int .i64 f.ret,.slice p f.slots.length y,.slice l f.blocks.length t] 25)) W:=by rw[G];exact qj _
 have L:W.heap.size=w.heap.size+1:=by rw[<-G];simp
 have r:Hid (∀w',Gr W w'->(w'.cell? ⟨w.heap.size,0,none⟩=some (.slice m f.params.length u)/\w'.cell? ⟨w.heap.size,1,none⟩=some (.int .i64 f.ret)/\w'.cell? ⟨w.heap.size,2,none⟩=some (.slice p f.slots.length y)/\w'.cell? ⟨w.heap.size,3,none⟩=some (.slice l f.blocks.length t))) :=
  fun w' q=>⟨(q.cell _ _ (by omega)).trans (dg _ _ 0 g0 rfl),(q.cell _ _ (by omega)).trans (dg _ _ 1 g0 rfl),(q.cell _ _ (by omega)).trans (dg _ _ 2 g0 rfl),(q.cell _ _ (by omega)).trans (dg _ _ 3 g0 rfl)⟩
 obtain⟨Z,k1,k2,k3⟩:=r.out W (qj _);obtain⟨e,H⟩:=xJ (Ref.validate f);rw[H]at E z j;have K:=dJ H;clear g0 H hn;by_cases h0:e=0
 ·have I:(e != 0)=false:=by simp[h0]
  obtain⟨s1,s2⟩:=j.out h0;have C:=dJ h0;have s3:(f.params.length:Int)<=3:=by omega
  have s4:(Ref.total f.blocks:Int)<=40:=by omega
  clear h0 s1 s2;have X:IntKind.i64.wrap ((f.params.length:Int)+(Ref.total f.blocks:Int))=(f.params.length:Int)+(Ref.total f.blocks:Int):=IntWalk.i64_in _ (by omega)
  go_enter func44, ntmps44
  go_wp2_with (go_at_call 28;refine(E.out _ g).mono ?_;rintro e d ⟨rfl,g1⟩;have Y:=dJ (r.out _ g1))
  go_region_held3 (fun w'=>w'.cell? ⟨w.heap.size,0,none⟩=some (.slice m f.params.length u)/\w'.cell? ⟨w.heap.size,1,none⟩=some (.int .i64 f.ret)/\w'.cell? ⟨w.heap.size,2,none⟩=some (.slice p f.slots.length y)/\w'.cell? ⟨w.heap.size,3,none⟩=some (.slice l f.blocks.length t)) (first|exact r.out _ g1.drew|exact r.out _ g3) (first|(go_at_call 48;refine(D.out _ ((g.trans g1).drew)).mono ?_;rintro e w3 ⟨rfl,F⟩;have g3:=g1.drew.trans F))
  all_goals go_wp2
  all_goals go_ret2
  all_goals exact⟨by rw[z.out,K.out,C.out,pB rfl,B.out];rfl,g.trans g3⟩
 ·have I:(e != 0)=true:=by simp[h0]
  have A:Hid (Ref.countR f=0):=by show _=_;rw[z.out,pC h0]
  clear h0
  go_enter func44, ntmps44
  go_wp2_with (go_at_call 28;refine(E.out _ g).mono ?_;rintro e d ⟨rfl,g1⟩);go_ret2;exact⟨by rw[A.out,K.out];rfl,g.trans g1⟩
theorem kY (v:Value)(f:Fn)(z:Int)(w:World)(hf:FnAt w.heap.size w v f)(hn:ia f) :
  Calls prog 71 #[v,.int .i64 z] w (RG (.int .i64 (Ref.valuedR f z)) w):=by
 have r:Hid (∀m,Gr w m->Calls prog 44 #[v] m (RG (.tuple #[.int .i64 (Ref.countR f),.int .i64 (Ref.validate f)]) m)):=fun m q=>iD v f m (hf.gr q) hn;have u:Hid (Ref.valuedR f z=if Ref.validate f=0 then (if z<0\/(Ref.count f:Int)<=z then 4 else 0) else Ref.validate f):=by show _=_;rfl
 have g:Hid (Ref.countR f=if Ref.validate f=0 then (Ref.count f:Int) else 0):=by show _=_;rfl
 obtain⟨V,W,U,rfl,N,B,K⟩:=hf;obtain⟨E,H,rfl,O,Q,-⟩:=N;obtain⟨F,I,rfl,R,T,-⟩:=B;obtain⟨D,G,rfl,L,M,-⟩:=K;have d:Gr w (w.alloc (.cells #[.slice E f.params.length H,.int .i64 f.ret,.slice F f.slots.length I,.slice D f.blocks.length G] 25)):=(qj w).alloc _;obtain⟨e,y⟩:=xJ (Ref.validate f);obtain⟨c,C⟩:=xJ ((Ref.count f:Int));obtain⟨p,l⟩:=xJ (Ref.countR f);rw[y,l]at r;rw[y,C]at u g;rw[l]at g;clear y C l hn;by_cases h0:e=0
 ·have A:(e != 0)=false:=by simp[h0]
  have t:Hid (p=c):=by show _=_;rw[g.out,pB h0]
  have j:Hid (Ref.valuedR f z=if z<0\/p<=z then 4 else 0):=by show _=_;rw[u.out,pB h0,t.out]
  clear h0;rcases (by omega:z<0\/(0<=z/\p<=z)\/(0<=z/\z<p)) with h|⟨h,J⟩|⟨h,J⟩
  all_goals
   go_enter func71, ntmps71
   go_wp2_with (go_at_call 44;refine(r.out _ d).mono ?_;rintro e m ⟨rfl,g1⟩);go_ret;exact⟨df (by rw[j.out];first|rw[pB (by omega)]|rw[pC (by omega)]),d.trans g1⟩
 ·have A:(e != 0)=true:=by simp[h0]
  have j:Hid (Ref.valuedR f z=e):=by show _=_;rw[u.out,pC h0]
  clear h0
  go_enter func71, ntmps71
  go_wp2_with (go_at_call 44;refine(r.out _ d).mono ?_;rintro e m ⟨rfl,g1⟩);go_ret;exact⟨df (by rw[j.out]),d.trans g1⟩
end
