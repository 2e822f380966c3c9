/- Parts. -/
import Derived.Test.YtjkajidbdmbbaaaGreatI18
import Derived.Sort.QuietIn
import Derived.IntWalk
import Derived.Test.YtjkajidbdmbbaaaGreatI19
set_option linter.unusedSimpArgs false
set_option linter.unusedVariables false
set_option maxRecDepth 100000
set_option maxHeartbeats 16000000
open Go.Proofs.Tryz
namespace Go.Proofs.YtjkajidbdmbbaaaGreat
section
open Go.RowKit Go.Shelf
def iP (ops:Array Oper):Bool:=ops.toList.all fun o=>match o.op with|.defer _=>false|_=>true
theorem mw {ops:Array Oper}(h:iP ops=true){i:Nat}{o:Oper}(hi:ops[i]?=some o):∀c,o.op≠.defer c:=by
 intro c e
 have d:o∈ops.toList:=by have:=Array.mem_of_getElem? hi;simpa using this
 have:=tu.1 h o d;rw[e]at this;cases this
section
variable {F:Fence}{n:Nat}{P:Program}{ops:Array Oper}{C:World->Prop}
theorem lh {o:Oper}{a:Act}{K:Act->Prop}{K':Act->World->Prop}{Q':Exit->Act->World->Prop}{w:World}(hnd:∀c,o.op≠.defer c)(hw:C w)(h:∀a w',C w'->K a->K' a w')
  (ha:o.askedIn F P a C) (hh:o.quietIn F n P a C K):o.wpIn F n P a w K' Q':=by
 obtain⟨v,l,j⟩:=hh;have d:=l w hw;unfold Oper.quietAtIn at d;refine⟨ha w hw,?_⟩;rw[Oper.semAt_plain F _ _ hnd]
 revert d
 generalize (execOp a.eval o).run P w=r;intro d
 cases r with
 | halt x w'=>exact d.elim
 | ok x w' =>
  cases x with
  | value u=>obtain⟨rfl,rfl⟩:=d;exact h _ _ hw j
  | skip=>obtain⟨rfl,rfl⟩:=d;exact h _ _ hw j
  | enter f args =>
   obtain⟨rfl,p,m⟩:=d;exact⟨p,m.mono fun e t ⟨q,g⟩=>by subst q;exact h _ _ g j⟩
  | _=>exact d.elim
theorem ej {Q:Act->Prop}{Q':Exit->Act->World->Prop}(hnd:iP ops=true)(hQ:∀a w,C w->Q a->Q' .normal a w):∀(fuel:Nat)(listed:Array Bool)(a:Act)(w:World),C w ->
  wpAnyQIn F n P .any ops C Q fuel listed a->wpAnyIn F n P .any ops Q' fuel listed a w
 | 0,_,_,_,hw,h=>⟨h.1,hQ _ _ hw h.2⟩
 | fuel+1,listed,a,w,hw,h=>by
  refine⟨fun m=>hQ _ _ hw (h.1 m),fun i hi=>?_⟩
  have d:=h.2 i hi
  have ih:=fun j w' g=>ej hnd hQ fuel (listed.setIfInBounds i true) j w' g;unfold qOpIn at d;unfold wpOpIn
  cases ho:ops[i]? with
  | none=>rw[ho]at d;exact ih _ _ hw d
  | some o =>
   rw[ho]at d;obtain⟨l,d⟩:=d;dsimp only;split
   ·next hwt=>rw[tB hwt]at d;exact lh (mw hnd ho) hw (fun j w' g p=>ih j w' g p) l d
   ·next hwt=>rw[tC hwt]at d;exact⟨l w hw,ih _ _ hw d⟩
theorem iT {id:Nat}{Q:Exit->Act->World->Prop}{a:Act}{w:World}{l:List Oper}(hnd:iP l.toArray=true)(hm:P.follows .mixedOrders=true)(hB:Region.lexB .any l.toArray=true)
  (h:wpQuietIn F n P l.toArray (fun w'=>∃n,w'=w.drewN n) (fun a'=>∀w',(∃n,w'=w.drewN n)->Q .normal a' w') l a):(Code.region id l.toArray true).wpIn F n P Q a w:=by
 simp only[Region.lexB,tD]at hB;refine wpIn_region_any hm (ej (C:=fun w'=>∃n,w'=w.drewN n) (Q:=fun a'=>∀w',(∃n,w'=w.drewN n)->Q .normal a' w') hnd (fun _ w' hw' h=>h w' hw') _ _ _ _ ⟨1,rfl⟩ ?_);have:=wpAnyQIn_lex (F:=F) (n:=n) (C:=fun w'=>∃n,w'=w.drewN n) (md:=.any) hB.1 l 0 (Array.replicate l.toArray.size false) a (by simp) (by simpa using hB.2) h;simpa using this
structure GrW (w:World) where
 val:World
 gr:Gr w val
theorem gS {id:Nat}{Q:Exit->Act->World->Prop}{a:Act}{w:World}{l:List Oper}(hnd:iP l.toArray=true)(hm:P.follows .mixedOrders=true)(hB:Region.lexB .any l.toArray=true)
  (h:wpQuietIn F n P l.toArray (fun w'=>∃u:GrW w,w'=u.val) (fun a'=>∀w',(∃u:GrW w,w'=u.val)->Q .normal a' w') l a):(Code.region id l.toArray true).wpIn F n P Q a w:=by
 simp only[Region.lexB,tD]at hB;refine wpIn_region_any hm (ej (C:=fun w'=>∃u:GrW w,w'=u.val) (Q:=fun a'=>∀w',(∃u:GrW w,w'=u.val)->Q .normal a' w') hnd (fun _ w' hw' h=>h w' hw') _ _ _ _ ⟨⟨w.drew,(tX w).drew⟩,rfl⟩ ?_);have:=wpAnyQIn_lex (F:=F) (n:=n) (C:=fun w'=>∃u:GrW w,w'=u.val) (md:=.any) hB.1 l 0 (Array.replicate l.toArray.size false) a (by simp) (by simpa using hB.2) h;simpa using this
end
theorem jq {F:Fence}{r:Nat}{P:Program}{f:FuncId}{args:Array Value}{w:World}{v:Value}(u:GrW w)
  (h:CallsIn F r P f args u.val (RG v u.val)):CallsIn F r P f args u.val fun e w''=>e=.returned v/\∃u':GrW w,w''=u'.val :=
 h.mono fun _ w' ⟨d,g⟩=>⟨d,⟨w',u.gr.trans g⟩,rfl⟩
theorem jJ {F:Fence}{r:Nat}{P:Program}{f:FuncId}{args:Array Value}{w:World}{n:Nat}{v:Value}
  (h:CallsIn F r P f args (w.drewN n) fun e w'=>e=.returned v/\w.drewN n=w'):CallsIn F r P f args (w.drewN n) fun e w''=>e=.returned v/\∃m,w''=w.drewN m :=
 h.mono fun _ _ ⟨d,g⟩=>⟨d,n,g.symm⟩
attribute [local go_sem] Oper.semAt_some
theorem fR:∀(bs:List Bool)(k b:Nat),Ref.has (Ir.listFrom bs k) (b:Int)=(decide (k<=b) && bs.getD (b-k) false)
 | [],k,b=>by simp[Ir.listFrom,Ref.has]
 | x::r,k,b=>by
  have ih:=fR r (k+1) b
  unfold Ref.has at ih ⊢;rw[Ir.listFrom];rcases Nat.lt_trichotomy b k with h|h|h
  ·have g:decide (k<=b)=false:=by simp;omega
   have d:decide (k+1<=b)=false:=by simp;omega
   rw[d,Bool.false_and]at ih;rw[g,Bool.false_and];split
   ·rw[List.any_cons,ih];simp;omega
   ·exact ih
  ·subst h;have d:decide (b+1<=b)=false:=by simp
   rw[d,Bool.false_and]at ih
   cases x with
   | true=>simp
   | false=>simp only[Bool.false_eq_true,if_false];rw[ih];simp
  ·have g:decide (k<=b)=true:=by simp;omega
   have d:decide (k+1<=b)=true:=by simp;omega
   rw[d,Bool.true_and]at ih;rw[g,Bool.true_and,show b-k=(b-(k+1))+1 by omega,List.getD_cons_succ];split
   ·rw[List.any_cons,ih];have:decide ((k:Int)=(b:Int))=false:=by simp;omega
    rw[this,Bool.false_or]
   ·exact ih
theorem kt (g:List (List Int))(b:Nat)(h:b<10):Ref.has (Ir.reachedL g) (b:Int)=rb g b:=by unfold Ir.reachedL;rw[fR];simp[h]
theorem mm {f:Fn}{v:Int}(h:0<=Ref.kind f v):0<=v/\v<Ref.count f:=by
 unfold Ref.kind at h;split at h
 ·omega
 ·omega
theorem mX {f:Fn}{x:Ins}(h:Ref.typed f x=true):∀v∈x.args,0<=v/\v<Ref.count f:=by unfold Ref.typed at h;simp only[tD]at h;intro v hv;have:=tu.1 h.1 v hv;exact mm (by simpa using this)
theorem iM (v:Value)(f:Fn)(w:World)(hf:FnAt w.heap.size w v f)(hb1:1<=f.blocks.length)(hb10:f.blocks.length<=10)(hit:(Ir.items f).length<=1000000)(hpl:f.params.length<=100000)(hln:Hid (∀l∈f.blocks,l.length<=100000))
  (hA:Hid (∀l∈f.blocks,∀x∈l,Ref.argument f x=true)) (hL:Hid (f.blocks.all Ref.laid=true)) (hT:Hid (∀l∈f.blocks,∀x∈l,Ref.typed f x=true)) :
  Calls prog 67 #[v] w (RG (.bool ((Ir.items f).all (Ir.argsOk f (Ref.graph f)))) w):=by
 have hv:=fK hA.out hL.out hb1 hb10;have bp:Hid (∀l∈f.blocks,l≠[]):=fun l hl=>iO (tu.1 hL.out l hl);have bl:=hf
 have HH:Hid (∀A,Gr w A->Calls prog 105 #[v] A fun e w'=>∃A1 n1 c1 A2 n2 c2 A3 n3 c3,e=.returned (.agg #[.int .i64 f.params.length,.slice A1 n1 c1,.slice A2 n2 c2,.slice A3 n3 c3])/\Hid (IntsAt w'.heap.size w' (.slice A1 n1 c1) (pf f)/\IntsAt w'.heap.size w' (.slice A2 n2 c2) (eW f)/\TabAt w'.heap.size w' (.slice A3 n3 c3) (Ref.graph f))/\Gr A w'):=by intro A q;refine(nI v f A (hf.gr q) (by omega) hit bp).mono ?_;rintro e w' ⟨vb,va,vg,q1,q2,q3,q4,q5⟩;have r2:=q2;have r3:=q3;have r4:=q4;obtain⟨A1,c1,rfl,-,-,-⟩:=q2;obtain⟨A2,c2,rfl,-,-,-⟩:=q3;obtain⟨A3,c3,rfl,-,-,-⟩:=q4;exact⟨A1,_,c1,A2,_,c2,A3,_,c3,q1,⟨r2,r3,r4⟩,q5⟩
 have a4:Hid (∀A u,TabAt A.heap.size A u (Ref.graph f)->Calls prog 106 #[u] A fun e w'=>∃Y n4 c4,e=.returned (.tuple #[.slice Y n4 c4,.int .i64 0])/\Hid (IntsAt w'.heap.size w' (.slice Y n4 c4) (Ir.reachedL (Ref.graph f)))/\Gr A w'):=by intro A u h;refine(jX u (Ref.graph f) A h hv).mono ?_;rintro e w' ⟨vl,q1,q2,q3⟩;have r2:=q2;obtain⟨Y,c4,rfl,-,-,-⟩:=q2;exact⟨Y,_,c4,q1,r2,q3⟩
 obtain⟨vp,vs,vb,rfl,hp,aR,hb⟩:=hf;obtain⟨Ap,cp,rfl,-,-,-⟩:=hp;obtain⟨As,cs,rfl,-,-,-⟩:=aR;obtain⟨Ab,cb,rfl,-,bK,aH⟩:=hb;obtain⟨bb,ob,rfl,aI,R⟩:=aH (by omega);have HC:=dJ R;obtain⟨W,hW⟩:=xJ ((w.alloc (.cells #[.slice Ap f.params.length cp,.int .i64 f.ret,.slice As f.slots.length cs,.slice (some ⟨bb,ob,none⟩) f.blocks.length cb] 36)).alloc (.cells #[.bool false] 4));have aw:Gr w W:=by rw[<-hW];exact((tX w).alloc _).alloc _
 have bJ:W.heap.size=w.heap.size+2:=by rw[<-hW];simp
 have g0:Gr (w.alloc (.cells #[.slice Ap f.params.length cp,.int .i64 f.ret,.slice As f.slots.length cs,.slice (some ⟨bb,ob,none⟩) f.blocks.length cb] 36)) W:=by rw[<-hW];exact(tX _).alloc _
 have B0:Hid (∀w',Gr W w'->w'.cell? ⟨w.heap.size,0,none⟩=some (.slice Ap f.params.length cp)/\w'.cell? ⟨w.heap.size,1,none⟩=some (.int .i64 f.ret)/\w'.cell? ⟨w.heap.size,2,none⟩=some (.slice As f.slots.length cs)/\w'.cell? ⟨w.heap.size,3,none⟩=some (.slice (some ⟨bb,ob,none⟩) f.blocks.length cb)) :=
  fun w' q=>⟨(q.cell _ _ (by omega)).trans (da _ _ 0 g0 rfl),(q.cell _ _ (by omega)).trans (da _ _ 1 g0 rfl),(q.cell _ _ (by omega)).trans (da _ _ 2 g0 rfl),(q.cell _ _ (by omega)).trans (da _ _ 3 g0 rfl)⟩
 have bv:W.heap[w.heap.size+1]?=some (.cells #[.bool false] 4 (0,0)):=by rw[<-hW];exact heap_alloc2_new w _ _
 have R0:Hid (∀w',Gr W w'->w'.heap[w.heap.size+1]?=some (.cells #[.bool false] 4 (0,0))):=fun w' q=>(q.heap _ (by omega)).trans bv;have aX:Hid (∀A,Calls prog 62 #[.agg #[.slice Ap f.params.length cp,.int .i64 f.ret,.slice As f.slots.length cs,.slice (some ⟨bb,ob,none⟩) f.blocks.length cb]] A fun e w'=>e=.returned (.func (.func 92) #[] #[.pointer (some ⟨A.heap.size,0,none⟩)])/\w'=A.alloc (.cells #[.slice Ap f.params.length cp,.int .i64 f.ret,.slice As f.slots.length cs,.slice (some ⟨bb,ob,none⟩) f.blocks.length cb] 36)):=fun A=>jd f Ap As _ _ _ _ cp cs cb A;have HV:=dJ hv;refine(callsIn_wide (n:=5)).1 ?_;refine callsIn_of_wp_marks func67 rfl trivial ?_ rfl;simp only[ntmps67,List.size_toArray,List.length_cons,List.length_nil,Nat.reduceAdd,Nat.reduceSub,Array.replicate_succ,Array.replicate_zero,List.push_toArray,List.append_toArray,List.nil_append,List.cons_append];refine wpIn_wide.2 ?_;obtain⟨k0,k1,k2,k3⟩:=B0.out W (tX _);clear g0 R aH hv
 go_wp2_with (first|(go_at_call 105;refine(HH.out _ aw).mono ?_;rintro e A ⟨A1,n1,c1,A2,n2,c2,A3,n3,c3,rfl,HI,g1⟩)|(go_at_call 106;refine(a4.out _ _ (HI.out.2.2.gr ((tX _).alloc _))).mono ?_;rintro e N ⟨Y,n4,c4,rfl,a0,g2⟩;have M:Gr W N:=g1.trans (((tX _).alloc _).trans g2);have hq:∀o,(N.alloc o).cell? ⟨w.heap.size,0,none⟩=some (.slice Ap f.params.length cp):=fun o=>(B0.out _ (M.alloc o)).1;have br:∀o,(N.alloc o).cell? ⟨w.heap.size,1,none⟩=some (.int .i64 f.ret):=fun o=>(B0.out _ (M.alloc o)).2.1;have bs:∀o,(N.alloc o).cell? ⟨w.heap.size,2,none⟩=some (.slice As f.slots.length cs):=fun o=>(B0.out _ (M.alloc o)).2.2.1;have bu:∀o,(N.alloc o).cell? ⟨w.heap.size,3,none⟩=some (.slice (some ⟨bb,ob,none⟩) f.blocks.length cb):=fun o=>(B0.out _ (M.alloc o)).2.2.2)|(go_at_call 62;refine(aX.out _).mono ?_;rintro e w3 ⟨rfl,rfl⟩))
 obtain⟨U,ad⟩:=xJ ((N.alloc (.cells #[.slice Y n4 c4] 33)).alloc (.cells #[.slice Ap f.params.length cp,.int .i64 f.ret,.slice As f.slots.length cs,.slice (some ⟨bb,ob,none⟩) f.blocks.length cb] 36));have S:Gr N U:=by rw[<-ad];exact((tX _).alloc _).alloc _
 have C:Gr W U:=M.trans S;have j:Gr w U:=aw.trans C;have bP:U.heap.size<=N.heap.size+2/\N.heap.size+2<=U.heap.size:=by rw[<-ad];simp
 have an:∀o,U.cell? ⟨N.heap.size+1,o,none⟩=(#[.slice Ap f.params.length cp,.int .i64 f.ret,.slice As f.slots.length cs,.slice (some ⟨bb,ob,none⟩) f.blocks.length cb]:Array Value)[o]?:=by intro o;rw[<-ad];exact tv _ _ _ _ _ _ (heap_alloc2_new N _ _)
 have aP:U.heap[N.heap.size]?=some (.cells #[.slice Y n4 c4] 33 (0,0)):=by rw[<-ad];exact heap_alloc2_old N _ _
 have bN:A.heap.size+1<=N.heap.size:=by have:=g2.size;simp at this;omega
 have aL:U.heap[A.heap.size]?=some (.cells #[.int .i64 f.params.length,.slice A1 n1 c1,.slice A2 n2 c2,.slice A3 n3 c3] 129 (0,0)):=((g2.trans S).heap _ (by simp)).trans (heap_alloc_new A _)
 have KP:Hid (∀w',Gr U w'->w'.heap[N.heap.size]?=some (.cells #[.slice Y n4 c4] 33 (0,0))/\w'.heap[A.heap.size]?=some (.cells #[.int .i64 f.params.length,.slice A1 n1 c1,.slice A2 n2 c2,.slice A3 n3 c3] 129 (0,0))) :=
  fun w' q=>⟨(q.heap _ (by omega)).trans aP,(q.heap _ (by omega)).trans aL⟩
 have aE:Hid (∀(z:Int)(b:Nat)(J:Int) w',Gr U w'->0<=z->z<Ref.count f->b<f.blocks.length->rb (Ref.graph f) b=true->Calls prog 107 #[.agg #[.int .i64 f.params.length,.slice A1 n1 c1,.slice A2 n2 c2,.slice A3 n3 c3],.int .i64 z,.int .i64 b,.int .i64 J] w' (RG (.bool (Ir.isThere f (Ref.graph f) z b J)) w')):=by intro z b J w' q h1 h2 h3 h4;have q':Gr A w':=((tX _).alloc _).trans (g2.trans (S.trans q));exact kA f _ _ _ z b J w' (HI.out.1.gr q') (HI.out.2.1.gr q') (HI.out.2.2.gr q') HV.out h1 h2 h3 h4 hpl hit
 have am:Hid (∀(b:Nat) w',Gr U w'->b<10->Calls prog 85 #[.slice Y n4 c4,.int .i64 b] w' (RS (.bool (rb (Ref.graph f) b)) w')):=by intro b w' q h;rw[<-kt _ b h];exact fP _ _ _ w' (a0.out.gr (S.trans q))
 have bO:=aw.size;have bT:=j.size;rw[ad];clear hq br bs bu k0 k1 k2 k3 aP aL
 refine fD (w:=w) (f:=f) (q:=6) (Bf:=N.heap.size+1) rfl bl j (by omega) (by omega) (an 0) (an 3) (fun Q O=>(∀it∈Q,Ir.argsOk f (Ref.graph f) it=true)/\Gr U O)
  (fun c Q O=>c=.ret/\(∃it∈Q,Ir.argsOk f (Ref.graph f) it=false)/\Below w.heap.size w O/\O.heap[w.heap.size+1]?=some (.cells #[.bool false] 4 (0,0)))
  (OwnFrom.and (ownFrom_pure _ _) (eP U)) (fun c=>OwnFrom.and (ownFrom_pure _ _) (OwnFrom.and (ownFrom_pure _ _) (OwnFrom.and (ownFrom_below (tS _) (by omega)) (el _ _ _)))) (fun Q O h=>h.2.size) ⟨fun it h=>by simp at h,tX _⟩ ?hassign ?hbody ?hdone ?hstop
 case hassign =>
  intro l it aa ta ca ct O K G;simp only[tO,List.set_cons_succ,List.set_cons_zero,kn,oA]at G ⊢;gi_wp2;exact G
 case hbody =>
  rintro l Q it aa ta ca ct O Bx ⟨ah,E⟩ bz aU ao ay bI aj;simp only[tO,List.set_cons_succ,List.set_cons_zero,kn];obtain⟨lb,e1,e2⟩:=fA f it ao;have az:=sS e1;have aA:=sS e2;have av:=fc f it.ins (hA.out lb az it.ins aA);have a7:=dJ (mX (hT.out lb az it.ins aA));have a6:=dJ av.1;have aZ:Hid (it.ins.op=28->it.ins.to.length=it.ins.args.length):=av.2;have bi:it.blk<f.blocks.length:=(sR.1 e1).1;have bF:Hid (Q.length<(Ir.items f).length+1):=ay;have bM:=E.size;have HX:Hid (∀w' o,Gr O w'->w'.cell? ⟨Bx,o,none⟩=(oA it aa ta ca ct)[o]?):=fun w' o q=>(q.cell Bx o (sZ.1 aj).1).trans (tv _ _ _ _ _ _ aj);have x0:O.cell? ⟨Bx,0,none⟩=some (.int .i64 it.ins.op):=HX.out _ 0 (tX _);have x3:O.cell? ⟨Bx,3,none⟩=some (.slice aa it.ins.args.length ca):=HX.out _ 3 (tX _);have x7:O.cell? ⟨Bx,7,none⟩=some (.int .i64 it.blk):=HX.out _ 7 (tX _);have bm:=cell_of_one (KP.out _ E).1;have aq:=dJ (am.out it.blk O E (by omega));obtain⟨bB,ai⟩:=xJ (rb (Ref.graph f) it.blk);have au:=dJ ai;rw[ai]at aq;clear e1 e2 az aA av ao ay aj ai
  cases bB with
  | false =>
   have ar:Hid (Ir.argsOk f (Ref.graph f) it=true):=by show _=_;unfold Ir.argsOk;rw[au.out];rfl
   gi_wp2_with (refine⟨trivial,?_⟩;gi_at_call 85;refine(CallsIn.inRound l (callsIn_wide.2 aq.out)).mono ?_;rintro e w4 ⟨rfl,rfl⟩);refine⟨(KeepsOthers.refl _).from _,Below.refl _ _,?_,E⟩;intro aD ax;rcases tI.1 ax with h|h
   ·exact ah aD h
   ·simp at h;subst h;exact ar.out
  | true =>
   have ar:Hid (Ir.argsOk f (Ref.graph f) it=Ref.argsFrom f (Ref.graph f) (Ref.reached (Ref.graph f) (-1)) it.blk it.pos it.ins it.ins.args 0):=by show _=_;unfold Ir.argsOk;rw[au.out];rfl
   gi_wp2_with (refine⟨trivial,?_⟩;gi_at_call 85;refine(CallsIn.inRound l (callsIn_wide.2 aq.out)).mono ?_;rintro e w4 ⟨rfl,rfl⟩);obtain⟨Aa,bG,ea,a1,a2,a3⟩:=bz;have aG:=dJ a3;simp only[Value.slice.injEq,true_and]at ea;obtain⟨bd,be⟩:=ea;subst bd;subst be
   gi_loopw [7,8,9,30] (fun _ _ _ i wr=>∃m:Nat,m<=it.ins.args.length/\i=.int .i64 m/\Gr O wr/\Hid (Ir.argsOk f (Ref.graph f) it=Ref.argsFrom f (Ref.graph f) (Ref.reached (Ref.graph f) (-1)) it.blk it.pos it.ins (it.ins.args.drop m) m)) (fun _ _ _ i _=>it.ins.args.length-(intOf i).toNat)
   case atStart=>exact⟨0,tR _,rfl,tX _,ar⟩
   case round =>
    obtain⟨m,hm,rfl,y,I⟩:=hrel;obtain⟨L,rfl⟩:∃L:World,L=wr:=⟨_,rfl⟩;clear x0 x3 x7 bm;rcases hr:it.ins.args.drop m with _|⟨z,r⟩
    ·have bo:=dm hr hm;have HE:Hid (Ir.argsOk f (Ref.graph f) it=true):=by show _=_;rw[I.out,hr];rfl
     have bL:(it.ins.args.length:Int)<=m:=by omega
     clear hr I bo a3;gi_wp2;refine⟨y.keeps.from _,Below.mono y (by omega),?_,E.trans y⟩;intro aD ax;rcases tI.1 ax with h|h
     ·exact ah aD h
     ·simp at h;subst h;exact HE.out
    ·obtain⟨ay,hz,aO⟩:=di hr;obtain⟨ba,oa,e3,bh,aJ⟩:=aG.out (by omega);subst e3;have bU:=((j.trans (E.trans y)).cell _ _ bh).trans (aJ m z hz);have bA:=a7.out z (sS hz);have d:=E.trans y;have x0:L.cell? ⟨Bx,0,none⟩=some (.int .i64 it.ins.op):=HX.out _ 0 y;have ab:Hid (Ir.argsOk f (Ref.graph f) it=(Ref.argOk f (Ref.graph f) (Ref.reached (Ref.graph f) (-1)) it.blk it.pos it.ins z (it.ins.to.getD m 0) && Ref.argsFrom f (Ref.graph f) (Ref.reached (Ref.graph f) (-1)) it.blk it.pos it.ins r (m+1))):=by show _=_;rw[I.out,hr];rfl
     have ac:Hid (it.ins.args.drop (m+1)=r):=aO;have bE:(m:Int)<it.ins.args.length:=by omega
     have ae:=R0.out _ (C.trans d);have rc:=cell_of_one ae;have rf:=free_of_one ae;obtain⟨aW,al⟩:=bA;clear hr hz aO I aJ a3;by_cases ho:it.ins.op=28
     ·have bq:(it.ins.op != 28)=false:=by simp[ho]
      have bn:=aZ.out ho;obtain⟨tz,ht⟩:∃tz,it.ins.to[m]?=some tz:=⟨it.ins.to[m]'(by omega),sQ (by omega)⟩;have aT:=a6.out tz (sS ht);obtain⟨F,rfl⟩:=tb aT.1;have aS:F<f.blocks.length:=by omega
      have aV:=aU;obtain⟨At,bH,et,t1,t2,t3⟩:=aU;simp only[Value.slice.injEq,true_and]at et;obtain⟨bf,bg⟩:=et;subst bf;subst bg;obtain⟨bt,ot,e4,bk,aK⟩:=t3 (by omega);subst e4;have bQ:=((j.trans d).cell _ _ bk).trans (aK m (F:Int) ht);have x5:L.cell? ⟨Bx,5,none⟩=some (.slice (some ⟨bt,ot,none⟩) it.ins.to.length ct):=HX.out _ 5 y;have bR:(m:Int)<it.ins.to.length:=by omega
      obtain⟨lt,T⟩:∃lt,f.blocks[F]?=some lt:=⟨f.blocks[F],sQ aS⟩;obtain⟨u,hu,bx⟩:=HC.out F lt T;obtain⟨Al,cl,rfl,p1,p2,-⟩:=bx;have bw:∀n,(L.drewN n).cell? ⟨bb,ob+F,none⟩=some (.slice Al lt.length cl):=fun n=>((j.trans (d.trans ((tX _).drewN n))).cell _ _ aI).trans hu;have ap:=((j.trans d).cell _ _ aI).trans hu;obtain⟨c0,a8,a9,bc⟩:=B0.out _ (C.trans d);have bS:(F:Int)<f.blocks.length:=by omega
      have X:=KP.out _ d;have y0:=cell_of_one X.1;obtain⟨h0,h1,h2,h3⟩:=crw4 X.2 0 1 2 3;have aY:Hid (it.ins.to.getD m 0=(F:Int)):=by show _=_;simp[List.getD,ht]
      have H:Hid (Ref.argOk f (Ref.graph f) (Ref.reached (Ref.graph f) (-1)) it.blk it.pos it.ins z (it.ins.to.getD m 0)=(!rb (Ref.graph f) F || Ir.isThere f (Ref.graph f) z F lt.length)):=by show _=_;rw[aY.out,kB f _ z F lt T al];unfold Ref.argOk rb;rw[tB ho];simp
      have Z:Hid (∀w',Gr L w'->Calls prog 85 #[.slice Y n4 c4,.int .i64 F] w' (RS (.bool (rb (Ref.graph f) F)) w')):=fun w' q=>am.out F w' (d.trans q) (by omega)
      have B:Hid (rb (Ref.graph f) F=true->∀w',Gr L w'->Calls prog 107 #[.agg #[.int .i64 f.params.length,.slice A1 n1 c1,.slice A2 n2 c2,.slice A3 n3 c3],.int .i64 z,.int .i64 F,.int .i64 lt.length] w' (RG (.bool (Ir.isThere f (Ref.graph f) z F lt.length)) w')) :=
       fun ai w' q=>aE.out z F _ w' (d.trans q) aW al aS ai
      obtain⟨rt,aQ⟩:=xJ (rb (Ref.graph f) F);obtain⟨th,ak⟩:=xJ (Ir.isThere f (Ref.graph f) z F lt.length);rw[aQ]at H Z B;rw[ak]at H B;have aR:lt.length<=100000:=hln.out lt (sS T);clear ho bn ht aT aK t3 T hu X aQ ak aV
      cases rt with
      | false =>
       gi_wp2;refine iT (by kernel_rfl) (by kernel_rfl) (by kernel_rfl) ?_
       repeat (first
         | gi_big_quiet_step (fail)
         | (refine wpQuietIn_step (fun _ _ _ _=>trivial) (fun K G=>?_)
            go_simp
            first
              | (refine G _ ?_;clear G K)
              | (apply Exists.intro
                 refine⟨fun _=>?_,G _ ?_⟩
                 (gi_at_call 85;exact jJ (CallsIn.inRound l (callsIn_wide.2 (Z.out _ ((tX L).drewN _)))))
                 clear G K)))
       refine wpQuietIn_nil ?_;intro w9 aC;obtain⟨nq,rfl⟩:=aC;gi_wp2;go_roundw;case rel=>exact⟨m+1,by omega,by go_num,y.drewN _,by (show _=_;rw[ab.out,H.out,ac.out];simp)⟩
       case measure=>simp[intOf];omega
      | true =>
       have aF:=dJ (B.out rfl);have U0:∀u:GrW L,u.val.cell? ⟨N.heap.size,0,none⟩=some (.slice Y n4 c4):=fun u=>cell_of_one (KP.out _ (d.trans u.gr)).1;have U1:∀u:GrW L,u.val.cell? ⟨A.heap.size,0,none⟩=some (.int .i64 f.params.length):=fun u=>tv _ _ 0 _ _ _ (KP.out _ (d.trans u.gr)).2;have U2:∀u:GrW L,u.val.cell? ⟨A.heap.size,1,none⟩=some (.slice A1 n1 c1):=fun u=>tv _ _ 1 _ _ _ (KP.out _ (d.trans u.gr)).2;have U3:∀u:GrW L,u.val.cell? ⟨A.heap.size,2,none⟩=some (.slice A2 n2 c2):=fun u=>tv _ _ 2 _ _ _ (KP.out _ (d.trans u.gr)).2;have U4:∀u:GrW L,u.val.cell? ⟨A.heap.size,3,none⟩=some (.slice A3 n3 c3):=fun u=>tv _ _ 3 _ _ _ (KP.out _ (d.trans u.gr)).2;have U5:∀u:GrW L,u.val.cell? ⟨w.heap.size,3,none⟩=some (.slice (some ⟨bb,ob,none⟩) f.blocks.length cb):=fun u=>(B0.out _ (C.trans (d.trans u.gr))).2.2.2;have U6:∀u:GrW L,u.val.cell? ⟨bb,ob+F,none⟩=some (.slice Al lt.length cl):=fun u=>(u.gr.cell _ _ (by have:=j.size;have:=d.size;omega)).trans ap;have UR:Hid (∀u:GrW L,u.val.heap[w.heap.size+1]?=some (.cells #[.bool false] 4 (0,0))):=fun u=>R0.out _ (C.trans (d.trans u.gr));clear c0 a8 a9 bc y0 h0 h1 h2 h3 bw ap rc rf ae;gi_wp2;refine gS (by kernel_rfl) (by kernel_rfl) (by kernel_rfl) ?_
       repeat
        (refine wpQuietIn_step (fun _ _ _ _=>trivial) (fun K G=>?_)
         go_simp
         first
           | (refine G _ ?_;clear G K)
           | (refine⟨_,fun _=>rfl,G _ ?_⟩;clear G K)
           | (apply Exists.intro
              refine⟨fun u=>?_,G _ ?_⟩
              (first|(gi_at_call 85;exact jq u (CallsIn.inRound l (callsIn_wide.2 ((Z.out _ u.gr).mono fun _ _ h=>⟨h.1,h.2 ▸ tX _⟩))))|(gi_at_call 107;exact jq u (CallsIn.inRound l (callsIn_wide.2 (aF.out _ u.gr)))))
              clear G K))
       refine wpQuietIn_nil ?_;intro w9 aC;obtain⟨u9,rfl⟩:=aC;have ag:=UR.out u9;have bC:=cell_of_one ag;have bD:=free_of_one ag;have g6:=u9.gr;clear U0 U1 U2 U3 U4 U5 U6;cases th
       ·gi_wp2;refine⟨((y.trans g6).keeps.trans (KeepsOthers.setCell _ _ _)).from _,rfl,⟨it,by simp,by rw[ab.out,H.out];rfl⟩,?_,?_⟩
        ·exact Below.setCell (j.trans (d.trans g6)) (p:=⟨w.heap.size+1,0,none⟩) (by show w.heap.size<=w.heap.size+1;omega) _
        ·exact cY (i:=0) (.bool false) ag
       ·gi_wp2;go_roundw;case rel=>exact⟨m+1,by omega,by go_num,y.trans g6,by (show _=_;rw[ab.out,H.out,ac.out];simp)⟩
        case measure=>simp[intOf];omega
     ·have bq:(it.ins.op != 28)=true:=by simp[ho]
      have x7:L.cell? ⟨Bx,7,none⟩=some (.int .i64 it.blk):=HX.out _ 7 y;have x8:L.cell? ⟨Bx,8,none⟩=some (.int .i64 it.pos):=HX.out _ 8 y;have X:=KP.out _ d;obtain⟨h0,h1,h2,h3⟩:=crw4 X.2 0 1 2 3
      have H:Hid (Ref.argOk f (Ref.graph f) (Ref.reached (Ref.graph f) (-1)) it.blk it.pos it.ins z (it.ins.to.getD m 0)=Ir.isThere f (Ref.graph f) z it.blk it.pos):=by show _=_;rw[kC f _ z _ _ al (by omega)];unfold Ref.argOk;rw[tC ho]
      have B:=dJ (aE.out z it.blk it.pos L d aW al bi au.out);obtain⟨th,ak⟩:=xJ (Ir.isThere f (Ref.graph f) z it.blk it.pos);rw[ak]at H B;clear ho ak X
      cases th with
      | false =>
       gi_wp2_with (refine⟨trivial,?_⟩;gi_at_call 107;refine(CallsIn.inRound l (callsIn_wide.2 B.out)).mono ?_;rintro e w5 ⟨rfl,g5⟩;have af:=R0.out _ (C.trans (d.trans g5));have bV:=cell_of_one af;have bW:=free_of_one af);refine⟨((y.trans g5).keeps.trans (KeepsOthers.setCell _ _ _)).from _,rfl,⟨it,by simp,by rw[ab.out,H.out];rfl⟩,?_,?_⟩
       ·exact Below.setCell (j.trans (d.trans g5)) (p:=⟨w.heap.size+1,0,none⟩) (by show w.heap.size<=w.heap.size+1;omega) _
       ·exact cY (i:=0) (.bool false) af
      | true =>
       gi_wp2_with (refine⟨trivial,?_⟩;gi_at_call 107;refine(CallsIn.inRound l (callsIn_wide.2 B.out)).mono ?_;rintro e w5 ⟨rfl,g5⟩);go_roundw;case rel=>exact⟨m+1,by omega,by go_num,y.trans g5,by (show _=_;rw[ab.out,H.out,ac.out];simp)⟩
       case measure=>simp[intOf];omega
 case hdone =>
  rintro D O hD ⟨ah,E⟩ G;have aB:=R0.out _ (C.trans E);have bC:=cell_of_one aB;have bD:=free_of_one aB;have a5:Hid ((Ir.items f).all (Ir.argsOk f (Ref.graph f))=true):=tu.2 ah;have HK:=dJ G;clear ah G;go_wp2;refine rR (w0:=w) (Br:=w.heap.size+1) (b:=true) (t:=2) rfl ((KeepsOthers.setCell _ _ _).same D _ HK.out rfl) rfl rfl (cY (i:=0) (.bool true) aB) (Below.setCell (j.trans E) (p:=⟨w.heap.size+1,0,none⟩) (by show w.heap.size<=w.heap.size+1;omega) _) (by omega) ?_;exact fun w' g=>⟨cZ (by rw[a5.out]),g⟩
 case hstop =>
  rintro D c Q O hD aN ⟨rfl,⟨it,hm,aM⟩,hB,bj⟩ G;have HF:Hid ((Ir.items f).all (Ir.argsOk f (Ref.graph f))=false):=List.all_eq_false.2 ⟨it,aN.subset hm,by simp[aM]⟩;have HK:=dJ G;clear G hm aM;go_wp2;refine rR (w0:=w) (Br:=w.heap.size+1) (b:=false) (t:=2) rfl HK.out rfl rfl bj hB (by omega) ?_;exact fun w' g=>⟨cZ (by rw[HF.out]),g⟩
attribute [local go_sem] Oper.semAt_some
theorem dI (fn:Func)(tmps:Array Value)(t:Nat)(w:World)(Br:Nat)(b:Int)(h:fn.results=#[.cell t 44])(ht:tmps[t]?.getD undef=.pointer (some ⟨Br,0,none⟩))(hc:w.cell? ⟨Br,0,none⟩=some (.int .i64 b)) :
  (results fn tmps).run prog w=.ok (.int .i64 b) w:=by simp[results,h,ht,go_sem,hc]
theorem rJ {fn:Func}{R:Ending->World->Prop}{a:Act}{w w0:World}{D Br t:Nat}{b:Int}(hd:a.defers=[{target:=.collected D,args:=#[]}])(hK:w.heap[D]?=some (.deferred (some [])))(hf:fn.results=#[.cell t 44])(ht:a.tmps[t]?.getD undef=.pointer (some ⟨Br,0,none⟩))
  (hb:w.heap[Br]?=some (.cells #[.int .i64 b] 44 (0,0))) (hw:Below w0.heap.size w0 w) (hD:w0.heap.size<=D) (hR:∀w',Gr w0 w'->R (.returned (.int .i64 b)) w'):bodyPostM Fence.wide 5 prog fn R .ret a w:=by
 have g:Br≠D:=fun e=>by rw[e,hK]at hb;cases hb
 have d:(w.putObj D (.deferred none)).heap[Br]?=some (.cells #[.int .i64 b] 44 (0,0)):=(World.putObj_heap_other g).trans hb;refine rW hd hK (dI fn a.tmps t _ Br b hf ht (cell_of_one d)) (hR _ ?_);exact Below.trans hw (belowK_b (w:=w0) (tS _) w D _ _ hD hK rfl rfl)
theorem rp {fn:Func}{R:Ending->World->Prop}{a:Act}{w w0:World}{D D2 Br t:Nat}{b:Int}(hd:a.defers=[{target:=.collected D2,args:=#[]},{target:=.collected D,args:=#[]}])(hK2:w.heap[D2]?=some (.deferred (some [])))(hK:w.heap[D]?=some (.deferred (some [])))(hDD:D≠D2)(hf:fn.results=#[.cell t 44])(ht:a.tmps[t]?.getD undef=.pointer (some ⟨Br,0,none⟩))
  (hb:w.heap[Br]?=some (.cells #[.int .i64 b] 44 (0,0))) (hw:Below w0.heap.size w0 w) (hD:w0.heap.size<=D) (hD2:w0.heap.size<=D2) (hR:∀w',Gr w0 w'->R (.returned (.int .i64 b)) w'):bodyPostM Fence.wide 5 prog fn R .ret a w:=by
 have l:Br≠D:=fun e=>by rw[e,hK]at hb;cases hb
 have g:Br≠D2:=fun e=>by rw[e,hK2]at hb;cases hb
 have d:(w.putObj D2 (.deferred none)).heap[D]?=some (.deferred (some [])):=(World.putObj_heap_other hDD).trans hK;have j:((w.putObj D2 (.deferred none)).putObj D (.deferred none)).heap[Br]?=some (.cells #[.int .i64 b] 44 (0,0)):=(World.putObj_heap_other l).trans ((World.putObj_heap_other g).trans hb);show LeavesInM Fence.wide 5 prog fn a.tmps R a.defers .returning w;rw[hd];refine kF hK2 (kF d (kE (dI fn a.tmps t _ Br b hf ht (cell_of_one j)) (hR _ ?_)));exact Below.trans (Below.trans hw (belowK_b (w:=w0) (tS _) w D2 _ _ hD2 hK2 rfl rfl)) (belowK_b (w:=w0) (tS _) (w.putObj D2 (.deferred none)) D _ _ hD d rfl rfl)
theorem pm {f:Fn}{x:Ins}(h:Ref.argument f x=true):(Ir.classOf x.op=3->2<=x.args.length)/\(Ir.classOf x.op=4->3<=x.args.length)/\(Ir.classOf x.op=5->1<=x.args.length)/\(Ir.classOf x.op=6->1<=x.args.length)/\(Ir.classOf x.op=11->2<=x.args.length)/\(Ir.classOf x.op=12->1<=x.args.length)/\(Ir.classOf x.op=13->2<=x.args.length)/\(Ir.classOf x.op=16->1<=x.args.length):=by
 obtain⟨g,d⟩:=nk h;by_cases l:x.op<0\/32<x.op
 ·rw[gM f x l]at d;cases d
 rcases (by omega:x.op=0\/(1<=x.op/\x.op<=13)\/x.op=14\/x.op=15\/x.op=16\/x.op=17\/x.op=18\/x.op=19\/x.op=20\/x.op=21\/x.op=22\/x.op=23\/x.op=24\/x.op=25\/x.op=26\/x.op=27\/x.op=28\/x.op=29\/x.op=30\/x.op=31\/x.op=32) with h|h|h|h|h|h|h|h|h|h|h|h|h|h|h|h|h|h|h|h|h
 case inr.inl =>
  have j:Ir.classOf x.op=2:=by rcases (by omega:x.op=1\/x.op=2\/x.op=3\/x.op=4\/x.op=5\/x.op=6\/x.op=7\/x.op=8\/x.op=9\/x.op=10\/x.op=11\/x.op=12\/x.op=13) with e|e|e|e|e|e|e|e|e|e|e|e|e;all_goals (rw[e];rfl)
  rw[j];simp
 all_goals (rw[h];simp[Ref.shape,h]at g;simp[Ir.classOf];try omega)
theorem gU {f:Fn}(h:¬(3<f.params.length\/2<f.slots.length\/f.blocks.length<1\/10<f.blocks.length))(ht:¬40<Ref.total f.blocks) :
  Ref.validate f=if Ir.isHead f=false then 1 else if f.blocks.all (fun l=>l.all (Ref.argument f))=false then 1 else if Ref.rules f=false then 7 else if f.blocks.all (fun l=>l.all (Ref.typed f))=false then 6 else if Ref.stated f=false then 9 else 0:=by
 unfold Ref.validate;rw[tC h,tC ht];unfold Ir.isHead;by_cases d:f.ret<0\/32<f.ret
 ·rw[tB d,tB];rcases d with d|d<;>simp<;>omega
 ·rw[tC d];have g:decide (0<=f.ret)=true:=by simp;omega
  have j:decide (f.ret<=32)=true:=by simp;omega
  rw[g,j];cases f.params.all Ref.isWidth<;>cases f.slots.all Ref.isSlot<;>simp
theorem pC (v:Value)(f:Fn)(w:World)(hf:FnAt w.heap.size w v f)(hs:f.blocks.length<=100000)(hln:Hid (∀l∈f.blocks,l.length<=100000))(hwf:Hid (∀l∈f.blocks,∀x∈l,WfI x))(hfl:Hid (∀l∈f.blocks,∀x∈l,-9223372036854775808<=x.flags/\x.flags<=9223372036854775807)) :
  Calls prog 42 #[v] w (RG (.int .i64 (Ref.validate f)) w):=by
 have ah:=hf;have aC:Hid (∀y,Gr w y->Calls prog 60 #[v] y (RG (.int .i64 (Ref.total f.blocks)) y)):=fun y q=>qg v f y (hf.gr q) hs;have az:Hid (∀y,Gr w y->Calls prog 61 #[v] y (RG (.bool (Ir.isHead f)) y)):=fun y q=>mf v f y (hf.gr q);obtain⟨vp,vs,vb,rfl,hp,ba,hb⟩:=hf;obtain⟨Z,cp,rfl,bl,bm,-⟩:=hp;obtain⟨R,cs,rfl,bo,a9,-⟩:=ba;obtain⟨Q,S,rfl,bi,bj,-⟩:=hb;obtain⟨W,hW⟩:=xJ ((w.alloc (.cells #[.slice Z f.params.length cp,.int .i64 f.ret,.slice R f.slots.length cs,.slice Q f.blocks.length S] 36)).alloc (.cells #[.int .i64 0] 44));have F:Gr w W:=by rw[<-hW];exact((tX w).alloc _).alloc _
 have bh:W.heap.size=w.heap.size+2:=by rw[<-hW];simp
 have g0:Gr (w.alloc (.cells #[.slice Z f.params.length cp,.int .i64 f.ret,.slice R f.slots.length cs,.slice Q f.blocks.length S] 36)) W:=by rw[<-hW];exact(tX _).alloc _
 have B0:Hid (∀w',Gr W w'->w'.cell? ⟨w.heap.size,0,none⟩=some (.slice Z f.params.length cp)/\w'.cell? ⟨w.heap.size,1,none⟩=some (.int .i64 f.ret)/\w'.cell? ⟨w.heap.size,2,none⟩=some (.slice R f.slots.length cs)/\w'.cell? ⟨w.heap.size,3,none⟩=some (.slice Q f.blocks.length S)) :=
  fun w' q=>⟨(q.cell _ _ (by omega)).trans (da _ _ 0 g0 rfl),(q.cell _ _ (by omega)).trans (da _ _ 1 g0 rfl),(q.cell _ _ (by omega)).trans (da _ _ 2 g0 rfl),(q.cell _ _ (by omega)).trans (da _ _ 3 g0 rfl)⟩
 have aJ:W.heap[w.heap.size+1]?=some (.cells #[.int .i64 0] 44 (0,0)):=by rw[<-hW];exact heap_alloc2_new w _ _
 have R0:Hid (∀w',Gr W w'->w'.heap[w.heap.size+1]?=some (.cells #[.int .i64 0] 44 (0,0))):=fun w' q=>(q.heap _ (by omega)).trans aJ;have aN:Hid (∀y,Calls prog 62 #[.agg #[.slice Z f.params.length cp,.int .i64 f.ret,.slice R f.slots.length cs,.slice Q f.blocks.length S]] y fun e w'=>e=.returned (.func (.func 92) #[] #[.pointer (some ⟨y.heap.size,0,none⟩)])/\w'=y.alloc (.cells #[.slice Z f.params.length cp,.int .i64 f.ret,.slice R f.slots.length cs,.slice Q f.blocks.length S] 36)):=fun y=>jd f Z R Q _ _ _ cp cs S y;refine(callsIn_wide (n:=5)).1 ?_;refine callsIn_of_wp_marks func42 rfl trivial ?_ rfl;simp only[ntmps42,List.size_toArray,List.length_cons,List.length_nil,Nat.reduceAdd,Nat.reduceSub,Array.replicate_succ,Array.replicate_zero,List.push_toArray,List.append_toArray,List.nil_append,List.cons_append];refine wpIn_wide.2 ?_;obtain⟨k0,k1,k2,k3⟩:=B0.out W (tX _);have rc:=cell_of_one aJ;have rf:=free_of_one aJ;have bs:=F.size;clear g0;by_cases z:3<f.params.length\/2<f.slots.length\/f.blocks.length<1\/10<f.blocks.length
 ·have HV:Hid (Ref.validate f=3):=by show _=_;unfold Ref.validate;rw[tB z]
  have HF:Hid (∀w',(W.setCell ⟨w.heap.size+1,0,none⟩ (.int .i64 3))=w'->w'.cell? ⟨w.heap.size+1,0,none⟩=some (.int .i64 3)/\Gr w w'):=by rintro w' rfl;exact⟨World.cell?_setCell_same' _ _ _ (by rw[rc];rfl),F.setCell (by show w.heap.size<=w.heap.size+1;omega) _⟩
  rcases tF 3 f.params.length with a1|a1
  ·have b1:(3:Int)<f.params.length:=by omega
   clear z;go_wp2;refine nd rfl (dI _ _ 2 _ _ 3 rfl rfl (HF.out _ rfl).1) ⟨dc (by rw[HV.out]),(HF.out _ rfl).2⟩
  have b1:(f.params.length:Int)<=3:=by omega
  rcases tF 2 f.slots.length with a2|a2
  ·have b2:(2:Int)<f.slots.length:=by omega
   clear z;go_wp2;refine nd rfl (dI _ _ 2 _ _ 3 rfl rfl (HF.out _ rfl).1) ⟨dc (by rw[HV.out]),(HF.out _ rfl).2⟩
  have b2:(f.slots.length:Int)<=2:=by omega
  rcases tF f.blocks.length 1 with a3|a3
  ·have b3:(f.blocks.length:Int)<1:=by omega
   clear z;go_wp2;refine nd rfl (dI _ _ 2 _ _ 3 rfl rfl (HF.out _ rfl).1) ⟨dc (by rw[HV.out]),(HF.out _ rfl).2⟩
  have b3:(1:Int)<=f.blocks.length:=by omega
  have b4:(10:Int)<f.blocks.length:=by omega
  clear z;go_wp2;refine nd rfl (dI _ _ 2 _ _ 3 rfl rfl (HF.out _ rfl).1) ⟨dc (by rw[HV.out]),(HF.out _ rfl).2⟩
 have b1:(f.params.length:Int)<=3:=by omega
 have b2:(f.slots.length:Int)<=2:=by omega
 have b3:(1:Int)<=f.blocks.length:=by omega
 have b4:(f.blocks.length:Int)<=10:=by omega
 by_cases ht:40<Ref.total f.blocks
 ·have HV:Hid (Ref.validate f=3):=by show _=_;unfold Ref.validate;rw[tC z,tB ht]
  have bb:(40:Int)<Ref.total f.blocks:=by omega
  clear z ht;go_wp2_with (go_at_call 60;refine(aC.out _ F).mono ?_;rintro e y ⟨rfl,g1⟩;have al:=R0.out _ g1;have aM:=cell_of_one al;have bd:=free_of_one al);refine nd rfl (dI _ _ 2 _ _ 3 rfl rfl (World.cell?_setCell_same' _ _ _ (by rw[aM];rfl))) ⟨dc (by rw[HV.out]),(F.trans g1).setCell (by show w.heap.size<=w.heap.size+1;omega) _⟩
 have HV:=dJ (gU z ht);have bb:(Ref.total f.blocks:Int)<=40:=by omega
 have aT:(Ir.items f).length<=1000000:=by rw[jx];omega
 have HB:Hid (1<=f.blocks.length/\f.blocks.length<=10):=⟨by omega,by omega⟩;clear z ht;obtain⟨hd,aG⟩:=xJ (Ir.isHead f);have aO:=dJ aG;rw[aG]at az HV;clear aG
 cases hd with
 | false =>
  go_wp2_with (first|(go_at_call 60;refine(aC.out _ F).mono ?_;rintro e y ⟨rfl,g1⟩;obtain⟨l0,l1,l2,l3⟩:=B0.out _ g1)|(go_at_call 61;refine(az.out _ (F.trans g1)).mono ?_;rintro e w2 ⟨rfl,g2⟩;have al:=R0.out _ (g1.trans g2);have aM:=cell_of_one al;have bd:=free_of_one al));refine nd rfl (dI _ _ 2 _ _ 1 rfl rfl (World.cell?_setCell_same' _ _ _ (by rw[aM];rfl))) ⟨dc (by rw[HV.out];rfl),(F.trans (g1.trans g2)).setCell (by show w.heap.size<=w.heap.size+1;omega) _⟩
 | true =>
  have ay:0<=f.ret:=by have:=aO.out;unfold Ir.isHead at this;simp only[tD,decide_eq_true_eq]at this;exact this.1.1.2
  have a4:Hid (∀it∈Ir.items f,Ir.isShaped f it.ins=Ref.argument f it.ins):=by intro it hm;obtain⟨l,e1,e2⟩:=fA f it hm;have:=hfl.out l (sS e1) _ (sS e2);exact kz f it.ins ay this.1 this.2
  have a5:Hid (∀it∈Ir.items f,WfI it.ins):=by intro it hm;obtain⟨l,e1,e2⟩:=fA f it hm;exact hwf.out l (sS e1) _ (sS e2)
  clear ay;go_wp2_with (first|(go_at_call 60;refine(aC.out _ F).mono ?_;rintro e y ⟨rfl,g1⟩;obtain⟨l0,l1,l2,l3⟩:=B0.out _ g1)|(go_at_call 61;refine(az.out _ (F.trans g1)).mono ?_;rintro e w2 ⟨rfl,g2⟩;obtain⟨m0,m1,m2,m3⟩:=B0.out _ (g1.trans g2))|(go_at_call 62;refine(aN.out _).mono ?_;rintro e w3 ⟨rfl,rfl⟩));have aS:Gr W w2:=g1.trans g2;obtain⟨W0,an⟩:=xJ (w2.alloc (.cells #[.slice Z f.params.length cp,.int .i64 f.ret,.slice R f.slots.length cs,.slice Q f.blocks.length S] 36));have m:Gr W W0:=by rw[<-an];exact aS.alloc _
  have T:Gr w W0:=F.trans m;have bp:W0.heap.size<=w2.heap.size+1/\w2.heap.size+1<=W0.heap.size:=by rw[<-an];simp
  have av:∀o,W0.cell? ⟨w2.heap.size,o,none⟩=(#[.slice Z f.params.length cp,.int .i64 f.ret,.slice R f.slots.length cs,.slice Q f.blocks.length S]:Array Value)[o]?:=by intro o;rw[<-an];exact tv _ _ _ _ _ _ (heap_alloc_new w2 _)
  have bq:=T.size;rw[an];clear l0 l1 l2 l3 m0 m1 m2 m3 k0 k1 k2 k3 rc rf
  refine fD (w:=w) (f:=f) (q:=3) (Bf:=w2.heap.size) rfl ah T hs (by omega) (av 0) (av 3) (fun B C=>(∀it∈B,it∈Ir.items f/\Ref.argument f it.ins=true)/\Gr W0 C)
   (fun c B C=>c=.ret/\(∃it∈B,Ref.argument f it.ins=false)/\Below w.heap.size w C/\C.heap[w.heap.size+1]?=some (.cells #[.int .i64 1] 44 (0,0)))
   (OwnFrom.and (ownFrom_pure _ _) (eP W0)) (fun c=>OwnFrom.and (ownFrom_pure _ _) (OwnFrom.and (ownFrom_pure _ _) (OwnFrom.and (ownFrom_below (tS _) (by omega)) (el _ _ _)))) (fun B C h=>h.2.size) ⟨fun it h=>by simp at h,tX _⟩ ?hassign ?hbody ?hdone ?hstop
  case hassign =>
   intro l it aa ta ca ct C K J;simp only[tO,List.set_cons_succ,List.set_cons_zero,kn,oA]at J ⊢;gi_wp2;exact J
  case hbody =>
   rintro l B it aa ta ca ct C Bx ⟨N,r⟩ aW aX I aI a6 U;simp only[tO,List.set_cons_succ,List.set_cons_zero,kn];have hX:∀o,C.cell? ⟨Bx,o,none⟩=(oA it aa ta ca ct)[o]?:=fun o=>tv _ _ _ _ _ _ U;have x0:C.cell? ⟨Bx,0,none⟩=some (.int .i64 it.ins.op):=hX 0;have x1:C.cell? ⟨Bx,1,none⟩=some (.int .i64 it.ins.width):=hX 1;have x2:C.cell? ⟨Bx,2,none⟩=some (.int .i64 it.ins.flags):=hX 2;have x3:C.cell? ⟨Bx,3,none⟩=some (.slice aa it.ins.args.length ca):=hX 3;have x4:C.cell? ⟨Bx,4,none⟩=some (.int .u32 it.ins.imm):=hX 4;have x5:C.cell? ⟨Bx,5,none⟩=some (.slice ta it.ins.to.length ct):=hX 5;have ao:=a5.out it I
   have HC:Hid (Calls prog 63 #[.agg #[.slice Z f.params.length cp,.int .i64 f.ret,.slice R f.slots.length cs,.slice Q f.blocks.length S],.agg #[.int .i64 it.ins.op,.int .i64 it.ins.width,.int .i64 it.ins.flags,.slice aa it.ins.args.length ca,.int .u32 it.ins.imm,.slice ta it.ins.to.length ct]] C (RG (.bool (Ref.argument f it.ins)) C)):=by rw[<-a4.out it I];exact jv f it.ins _ R aa ta Q cs ca ct S C ⟨ao.1.1,ao.1.2,a9,by have:=ao.2.2.2;omega⟩ (aX.gr (T.trans r))
   obtain⟨m0,m1,m2,m3⟩:=B0.out _ (m.trans r);have HM:Hid (it∈Ir.items f):=I;have a8:=r.size;obtain⟨ag,ab⟩:=xJ (Ref.argument f it.ins);have ae:=dJ ab;rw[ab]at HC;clear hX I aI U ab ao
   cases ag with
   | false =>
    gi_wp2_with (refine⟨trivial,?_⟩;gi_at_call 63;refine(CallsIn.inRound l (callsIn_wide.2 HC.out)).mono ?_;rintro e w5 ⟨rfl,L⟩;have d:=R0.out _ (m.trans (r.trans L));have ap:=cell_of_one d;have aq:=free_of_one d);refine⟨(L.keeps.trans (KeepsOthers.setCell _ _ _)).from _,rfl,⟨it,by simp,ae.out⟩,?_,?_⟩
    ·exact Below.setCell (T.trans (r.trans L)) (p:=⟨w.heap.size+1,0,none⟩) (by show w.heap.size<=w.heap.size+1;omega) _
    ·exact cY (i:=0) (.int .i64 1) d
   | true =>
    gi_wp2_with (refine⟨trivial,?_⟩;gi_at_call 63;refine(CallsIn.inRound l (callsIn_wide.2 HC.out)).mono ?_;rintro e w5 ⟨rfl,L⟩);refine⟨L.keeps.from _,Below.mono L (by omega),?_,r.trans L⟩;intro aL aH;rcases tI.1 aH with h|h
    ·exact N aL h
    ·simp at h;subst h;exact⟨HM.out,ae.out⟩
  case hstop =>
   rintro D c B C hD ak ⟨rfl,⟨it,hm,aj⟩,hB,aF⟩ J
   have HF:Hid (f.blocks.all (fun l=>l.all (Ref.argument f))=false):=by show _=_;rw[<-fz];exact List.all_eq_false.2 ⟨it,ak.subset hm,by simp[aj]⟩
   have HK:=dJ J;clear J hm aj;go_wp2;refine rJ (w0:=w) (Br:=w.heap.size+1) (b:=1) (t:=2) rfl HK.out rfl rfl aF hB (by omega) ?_;exact fun w' g=>⟨dc (by rw[HV.out,HF.out];rfl),g⟩
  case hdone =>
   rintro D C hD ⟨N,r⟩ J
   have ar:Hid (f.blocks.all (fun l=>l.all (Ref.argument f))=true):=by show _=_;rw[<-fz];exact tu.2 fun it h=>(N it h).2
   have HA:Hid (∀l∈f.blocks,∀x∈l,Ref.argument f x=true):=lj ar.out;have ad:Hid (Ref.validate f=if Ref.rules f=false then 7 else if f.blocks.all (fun l=>l.all (Ref.typed f))=false then 6 else if Ref.stated f=false then 9 else 0):=by show _=_;rw[HV.out,ar.out];rfl
   have aB:Hid (∀y,Gr w y->Calls prog 64 #[.agg #[.slice Z f.params.length cp,.int .i64 f.ret,.slice R f.slots.length cs,.slice Q f.blocks.length S]] y (RG (.bool (Ref.rules f)) y)):=by rw[<-nN];exact fun y q=>mg _ f y (ah.gr q) HB.out.1 HB.out.2 HA
   have am:Hid (∀w',Gr C w'->w'.heap[D]?=some (.deferred (some []))):=fun w' q=>(q.heap D (sZ.1 J).1).trans J;have bg:D<C.heap.size:=(sZ.1 J).1;obtain⟨m0,m1,m2,m3⟩:=B0.out _ (m.trans r);have ac:Gr w C:=T.trans r;obtain⟨ru,aK⟩:=xJ (Ref.rules f);have aQ:=dJ aK;rw[aK]at ad aB;clear N J aK
   cases ru with
   | false =>
    go_wp2_with (go_at_call 64;refine(aB.out _ ac).mono ?_;rintro e w5 ⟨rfl,L⟩;have d:=R0.out _ (m.trans (r.trans L));have ap:=cell_of_one d;have aq:=free_of_one d);refine rJ (w0:=w) (Br:=w.heap.size+1) (b:=7) (t:=2) rfl ((KeepsOthers.setCell _ _ _).same D _ (am.out _ L) rfl) rfl rfl (cY (i:=0) (.int .i64 7) d) (Below.setCell (ac.trans L) (p:=⟨w.heap.size+1,0,none⟩) (by show w.heap.size<=w.heap.size+1;omega) _) (by omega) ?_;exact fun w' g=>⟨dc (by rw[ad.out];rfl),g⟩
   | true =>
    have bk:Hid (∀l∈f.blocks,l≠[]):=lA aQ.out
    have HL:Hid (f.blocks.all Ref.laid=true):=by have:=aQ.out;unfold Ref.rules at this;simp only[tD]at this;exact this.1.1
    have aZ:Hid (∀y,Gr w y->Calls prog 65 #[.agg #[.slice Z f.params.length cp,.int .i64 f.ret,.slice R f.slots.length cs,.slice Q f.blocks.length S]] y fun e w'=>∃A c,e=.returned (.slice A (Ir.kinds f).length c)/\Hid (IntsAt w'.heap.size w' (.slice A (Ir.kinds f).length c) (Ir.kinds f))/\Gr y w'):=by intro y q;refine(nO _ f y (ah.gr q) hs aT (by omega)).mono ?_;rintro e w' ⟨u,q1,q2,q3⟩;have bc:=q2;obtain⟨A,c,rfl,-,-,-⟩:=q2;exact⟨A,c,q1,bc,q3⟩
    go_wp2_with (first|(go_at_call 64;refine(aB.out _ ac).mono ?_;rintro e w5 ⟨rfl,L⟩;obtain⟨n0,n1,n2,n3⟩:=B0.out _ (m.trans (r.trans L)))|(go_at_call 65;refine(aZ.out _ (ac.trans L)).mono ?_;rintro e w6 ⟨A6,c6,rfl,aY,g6⟩;have p0:∀o,(w6.alloc o).cell? ⟨w.heap.size,0,none⟩=some (.slice Z f.params.length cp):=fun o=>(B0.out _ (m.trans (r.trans (L.trans (g6.alloc o))))).1;have p1:∀o,(w6.alloc o).cell? ⟨w.heap.size,1,none⟩=some (.int .i64 f.ret):=fun o=>(B0.out _ (m.trans (r.trans (L.trans (g6.alloc o))))).2.1;have p2:∀o,(w6.alloc o).cell? ⟨w.heap.size,2,none⟩=some (.slice R f.slots.length cs):=fun o=>(B0.out _ (m.trans (r.trans (L.trans (g6.alloc o))))).2.2.1;have p3:∀o,(w6.alloc o).cell? ⟨w.heap.size,3,none⟩=some (.slice Q f.blocks.length S):=fun o=>(B0.out _ (m.trans (r.trans (L.trans (g6.alloc o))))).2.2.2)|(go_at_call 62;refine(aN.out _).mono ?_;rintro e w7 ⟨rfl,rfl⟩))
    have ax:Gr C w6:=L.trans g6;obtain⟨W1,af⟩:=xJ ((w6.alloc (.cells #[.slice A6 (Ir.kinds f).length c6] 33)).alloc (.cells #[.slice Z f.params.length cp,.int .i64 f.ret,.slice R f.slots.length cs,.slice Q f.blocks.length S] 36));have ai:Gr w6 W1:=by rw[<-af];exact((tX _).alloc _).alloc _
    have G:Gr W W1:=m.trans (r.trans (ax.trans ai));have H:Gr w W1:=F.trans G;have M:Gr C W1:=ax.trans ai;have be:W1.heap.size<=w6.heap.size+2/\w6.heap.size+2<=W1.heap.size:=by rw[<-af];simp
    have aw:∀o,W1.cell? ⟨w6.heap.size+1,o,none⟩=(#[.slice Z f.params.length cp,.int .i64 f.ret,.slice R f.slots.length cs,.slice Q f.blocks.length S]:Array Value)[o]?:=by intro o;rw[<-af];exact tv _ _ _ _ _ _ (heap_alloc2_new w6 _ _)
    have aU:W1.heap[w6.heap.size]?=some (.cells #[.slice A6 (Ir.kinds f).length c6] 33 (0,0)):=by rw[<-af];exact heap_alloc2_old w6 _ _
    have KB:Hid (∀w',Gr W1 w'->w'.heap[w6.heap.size]?=some (.cells #[.slice A6 (Ir.kinds f).length c6] 33 (0,0))):=fun w' q=>(q.heap _ (by omega)).trans aU;have a0:Hid (∀w',Gr W1 w'->IntsAt w'.heap.size w' (.slice A6 (Ir.kinds f).length c6) (Ir.kinds f)):=fun w' q=>aY.out.gr (ai.trans q);have br:=H.size;have bf:=M.size;rw[af];clear n0 n1 n2 n3 m0 m1 m2 m3 p0 p1 p2 p3 aU
    refine fD (w:=w) (f:=f) (q:=5) (Bf:=w6.heap.size+1) rfl ah H hs (by omega) (aw 0) (aw 3) (fun B E=>(∀it∈B,Ref.typed f it.ins=true)/\Gr W1 E)
     (fun c B E=>c=.ret/\(∃it∈B,Ref.typed f it.ins=false)/\Below w.heap.size w E/\E.heap[w.heap.size+1]?=some (.cells #[.int .i64 6] 44 (0,0))/\E.heap[D]?=some (.deferred (some [])))
     (OwnFrom.and (ownFrom_pure _ _) (eP W1)) (fun c=>OwnFrom.and (ownFrom_pure _ _) (OwnFrom.and (ownFrom_pure _ _) (OwnFrom.and (ownFrom_below (tS _) (by omega)) (OwnFrom.and (el _ _ _) ?hD)))) (fun B E h=>h.2.size) ⟨fun it h=>by simp at h,tX _⟩ ?hassign2 ?hbody2 ?hdone2 ?hstop2
    case hD =>
     intro s X Y row h hg hr;refine(hg.block D (sZ.1 h).1 (fun e=>?_)).trans h;have:=(hr D e.symm).1;omega
    case hassign2 =>
     intro l it aa ta ca ct E K J;simp only[tO,List.set_cons_succ,List.set_cons_zero,kn,oA]at J ⊢;gi_wp2;exact J
    case hbody2 =>
     rintro l B it aa ta ca ct E Bx ⟨N,j⟩ aW aX I aI a6 U;simp only[tO,List.set_cons_succ,List.set_cons_zero,kn];have hX:∀o,E.cell? ⟨Bx,o,none⟩=(oA it aa ta ca ct)[o]?:=fun o=>tv _ _ _ _ _ _ U;have x0:E.cell? ⟨Bx,0,none⟩=some (.int .i64 it.ins.op):=hX 0;have x1:E.cell? ⟨Bx,1,none⟩=some (.int .i64 it.ins.width):=hX 1;have x2:E.cell? ⟨Bx,2,none⟩=some (.int .i64 it.ins.flags):=hX 2;have x3:E.cell? ⟨Bx,3,none⟩=some (.slice aa it.ins.args.length ca):=hX 3;have x4:E.cell? ⟨Bx,4,none⟩=some (.int .u32 it.ins.imm):=hX 4;have x5:E.cell? ⟨Bx,5,none⟩=some (.slice ta it.ins.to.length ct):=hX 5;obtain⟨lb,e1,e2⟩:=fA f it I;have aE:=HA.out lb (sS e1) it.ins (sS e2)
     have HC:Hid (Calls prog 66 #[.agg #[.slice Z f.params.length cp,.int .i64 f.ret,.slice R f.slots.length cs,.slice Q f.blocks.length S],.agg #[.int .i64 it.ins.op,.int .i64 it.ins.width,.int .i64 it.ins.flags,.slice aa it.ins.args.length ca,.int .u32 it.ins.imm,.slice ta it.ins.to.length ct],.slice A6 (Ir.kinds f).length c6] E (RG (.bool (Ref.typed f it.ins)) E)):=by rw[<-qm f it.ins aE];exact ml f it.ins (Ir.kinds f) _ _ _ aa ta A6 ca ct c6 E (aW.gr (H.trans j)) (a0.out _ j) (pm aE)
     obtain⟨m0,m1,m2,m3⟩:=B0.out _ (G.trans j);have kb:=cell_of_one (KB.out _ j);have a8:=j.size;obtain⟨ag,ab⟩:=xJ (Ref.typed f it.ins);have ae:=dJ ab;rw[ab]at HC;clear hX I aI U ab aE e1 e2
     cases ag with
     | false =>
      gi_wp2_with (refine⟨trivial,?_⟩;gi_at_call 66;refine(CallsIn.inRound l (callsIn_wide.2 HC.out)).mono ?_;rintro e w9 ⟨rfl,O⟩;have d:=R0.out _ (G.trans (j.trans O));have ap:=cell_of_one d;have aq:=free_of_one d);refine⟨(O.keeps.trans (KeepsOthers.setCell _ _ _)).from _,rfl,⟨it,by simp,ae.out⟩,?_,?_,?_⟩
      ·exact Below.setCell (H.trans (j.trans O)) (p:=⟨w.heap.size+1,0,none⟩) (by show w.heap.size<=w.heap.size+1;omega) _
      ·exact cY (i:=0) (.int .i64 6) d
      ·exact(KeepsOthers.setCell _ _ _).same D _ (am.out _ (M.trans (j.trans O))) rfl
     | true =>
      gi_wp2_with (refine⟨trivial,?_⟩;gi_at_call 66;refine(CallsIn.inRound l (callsIn_wide.2 HC.out)).mono ?_;rintro e w9 ⟨rfl,O⟩);refine⟨O.keeps.from _,Below.mono O (by omega),?_,j.trans O⟩;intro aL aH;rcases tI.1 aH with h|h
      ·exact N aL h
      ·simp at h;subst h;exact ae.out
    case hstop2 =>
     rintro D2 c B E a7 ak ⟨rfl,⟨it,hm,aj⟩,hB,aF,aR⟩ J
     have HF:Hid (f.blocks.all (fun l=>l.all (Ref.typed f))=false):=by show _=_;rw[<-fz];exact List.all_eq_false.2 ⟨it,ak.subset hm,by simp[aj]⟩
     have HK:=dJ J;have aP:=dJ aR;clear J hm aj aR;go_wp2;refine rp (w0:=w) (Br:=w.heap.size+1) (b:=6) (t:=2) rfl HK.out aP.out (by omega) rfl rfl aF hB (by omega) (by omega) ?_;exact fun w' g=>⟨dc (by rw[ad.out,HF.out];rfl),g⟩
    case hdone2 =>
     rintro D2 E a7 ⟨N,j⟩ J
     have aD:Hid (f.blocks.all (fun l=>l.all (Ref.typed f))=true):=by show _=_;rw[<-fz];exact tu.2 N
     have HT:Hid (∀l∈f.blocks,∀x∈l,Ref.typed f x=true):=fun l hl x hx=>tu.1 (tu.1 aD.out l hl) x hx
     have aA:Hid (Calls prog 67 #[.agg #[.slice Z f.params.length cp,.int .i64 f.ret,.slice R f.slots.length cs,.slice Q f.blocks.length S]] E (RG (.bool (Ref.stated f)) E)):=by rw[<-oS];exact iM _ f E (ah.gr (H.trans j)) HB.out.1 HB.out.2 aT (by omega) hln HA HL HT
     have bn:=R0.out _ (G.trans j);obtain⟨m0,m1,m2,m3⟩:=B0.out _ (G.trans j);have au:Hid (∀w',Gr E w'->w'.heap[D2]?=some (.deferred (some []))):=fun w' q=>(q.heap D2 (sZ.1 J).1).trans J;obtain⟨st,aV⟩:=xJ (Ref.stated f);rw[aV]at aA ad;clear N J aV;cases st
     ·go_wp2_with (go_at_call 67;refine aA.out.mono ?_;rintro e w9 ⟨rfl,O⟩;have d:=R0.out _ (G.trans (j.trans O));have ap:=cell_of_one d;have aq:=free_of_one d);refine rp (w0:=w) (Br:=w.heap.size+1) (b:=9) (t:=2) rfl ((KeepsOthers.setCell _ _ _).same D2 _ (au.out _ O) rfl) ((KeepsOthers.setCell _ _ _).same D _ (am.out _ (M.trans (j.trans O))) rfl) (by omega) rfl rfl (cY (i:=0) (.int .i64 9) d) (Below.setCell (H.trans (j.trans O)) (p:=⟨w.heap.size+1,0,none⟩) (by show w.heap.size<=w.heap.size+1;omega) _) (by omega) (by omega) ?_;exact fun w' g=>⟨dc (by rw[ad.out,aD.out];rfl),g⟩
     ·go_wp2_with (go_at_call 67;refine aA.out.mono ?_;rintro e w9 ⟨rfl,O⟩;have d:=R0.out _ (G.trans (j.trans O));have ap:=cell_of_one d;have aq:=free_of_one d);refine rp (w0:=w) (Br:=w.heap.size+1) (b:=0) (t:=2) rfl ((KeepsOthers.setCell _ _ _).same D2 _ (au.out _ O) rfl) ((KeepsOthers.setCell _ _ _).same D _ (am.out _ (M.trans (j.trans O))) rfl) (by omega) rfl rfl (cY (i:=0) (.int .i64 0) d) (Below.setCell (H.trans (j.trans O)) (p:=⟨w.heap.size+1,0,none⟩) (by show w.heap.size<=w.heap.size+1;omega) _) (by omega) (by omega) ?_;exact fun w' g=>⟨dc (by rw[ad.out,aD.out];rfl),g⟩
structure fH (f:Fn):Prop where
 blocks:f.blocks.length<=100000
 block:∀l∈f.blocks,l.length<=100000
 wf:∀l∈f.blocks,∀x∈l,WfI x
 flags:∀l∈f.blocks,∀x∈l,-9223372036854775808<=x.flags/\x.flags<=9223372036854775807
theorem fB (v:Value)(f:Fn)(w:World)(hf:FnAt w.heap.size w v f)(hn:fH f):Calls prog 42 #[v] w (RG (.int .i64 (Ref.validate f)) w) :=
 pC v f w hf hn.blocks hn.block hn.wf hn.flags
theorem fF (v:Value)(f:Fn)(w:World)(hf:FnAt w.heap.size w v f)(hn:fH f):Calls prog 44 #[v] w (RG (.int .i64 (Ref.validate f)) w) :=
 pZ v f w hf hn.blocks hn.block hn.wf
end
