import Derived.Test.YtjkajidbdmbbaaaGreatN17
import Derived.Sort.QuietIn
import Derived.IntWalk
import Derived.Test.YtjkajidbdmbbaaaGreatN18
set_option linter.unusedSimpArgs false
set_option linter.unusedVariables false
set_option maxRecDepth 100000
set_option maxHeartbeats 16000000
open Go.Proofs.Tryz
namespace Go.Proofs.YtjkajidbdmbbaaaGreat
open Ref Rn Wd Ir Rf
variable {a:Act}{K':Act->World->Prop}{ops:Array Oper}{args:Array Value}{R:Ending->World->Prop}{Q Q':Exit->Act->World->Prop}{f:Fn}{fn:Func}{x:Ins}{b:Int}{l:List Oper}{Br D i id n r t:Nat}{o:Oper}{P:Program}{v:Value}{w w0:World}
section
open Go.RowKit Go.Shelf
def kH (ops:Array Oper):Bool:=ops.toList.all fun o=>match o.op with|.defer _=>false|_=>true
theorem pt (h:kH ops=true)(hi:ops[i]?=some o):∀c,o.op≠.defer c:=by
 intro c e
 have d:o∈ops.toList:=by have:=Array.mem_of_getElem? hi;simpa using this
 have:=ym.1 h o d;rw[e]at this;cases this
section
variable {F:Fence}{n:Nat}{P:Program}{ops:Array Oper}{C:World->Prop}
theorem nD {K:Act->Prop}(hnd:∀c,o.op≠.defer c)(hw:C w)(h:∀a w',C w'->K a->K' a w')
  (ha:o.askedIn F P a C) (hh:o.quietIn F n P a C K):o.wpIn F n P a w K' Q':=by
 obtain⟨v,l,j⟩:=hh;have d:=l w hw;unfold Oper.quietAtIn at d;refine⟨ha w hw,?_⟩;rw[Oper.semAt_plain F _ _ hnd]
 revert d
 generalize (execOp a.eval o).run P w=r;intro d
 cases r with
 | halt x w'=>exact d.elim
 | ok x w' =>
  cases x with
  | value u=>obtain⟨rfl,rfl⟩:=d;exact h _ _ hw j
  | skip=>obtain⟨rfl,rfl⟩:=d;exact h _ _ hw j
  | enter f args =>
   obtain⟨rfl,p,m⟩:=d;exact⟨p,m.mono fun e t ⟨q,g⟩=>by subst q;exact h _ _ g j⟩
  | _=>exact d.elim
theorem eX {Q:Act->Prop}{Q':Exit->Act->World->Prop}(hnd:kH ops=true)(hQ:∀a w,C w->Q a->Q' .normal a w):∀(fuel:Nat)(listed:Array Bool)(a:Act)(w:World),C w ->
  wpAnyQIn F n P .any ops C Q fuel listed a->wpAnyIn F n P .any ops Q' fuel listed a w
 | 0,_,_,_,hw,h=>⟨h.1,hQ _ _ hw h.2⟩
 | fuel+1,listed,a,w,hw,h=>by
  refine⟨fun m=>hQ _ _ hw (h.1 m),fun i hi=>?_⟩
  have d:=h.2 i hi
  have ih:=fun j w' g=>eX hnd hQ fuel (listed.setIfInBounds i true) j w' g;unfold qOpIn at d;unfold wpOpIn
  cases ho:ops[i]? with
  | none=>rw[ho]at d;exact ih _ _ hw d
  | some o =>
   rw[ho]at d;obtain⟨l,d⟩:=d;dsimp only;split
   ·next hwt=>rw[yr hwt]at d;exact nD (pt hnd ho) hw (fun j w' g p=>ih j w' g p) l d
   ·next hwt=>rw[yt hwt]at d;exact⟨l w hw,ih _ _ hw d⟩
theorem kM (hnd:kH l.toArray=true)(hm:P.follows .mixedOrders=true)(hB:Region.lexB .any l.toArray=true)
  (h:wpQuietIn F n P l.toArray (fun w'=>∃n,w'=w.drewN n) (fun a'=>∀w',(∃n,w'=w.drewN n)->Q .normal a' w') l a):(Code.region id l.toArray true).wpIn F n P Q a w:=by
 simp only[Region.lexB,yu]at hB;refine wpIn_region_any hm (eX (C:=fun w'=>∃n,w'=w.drewN n) (Q:=fun a'=>∀w',(∃n,w'=w.drewN n)->Q .normal a' w') hnd (fun _ w' hw' h=>h w' hw') _ _ _ _ ⟨1,rfl⟩ ?_);have:=wpAnyQIn_lex (F:=F) (n:=n) (C:=fun w'=>∃n,w'=w.drewN n) (md:=.any) hB.1 l 0 (Array.replicate l.toArray.size false) a (by simp) (by simpa using hB.2) h;simpa using this
structure GrW (w:World) where
 val:World
 gr:Gr w val
theorem jA (hnd:kH l.toArray=true)(hm:P.follows .mixedOrders=true)(hB:Region.lexB .any l.toArray=true)
  (h:wpQuietIn F n P l.toArray (fun w'=>∃u:GrW w,w'=u.val) (fun a'=>∀w',(∃u:GrW w,w'=u.val)->Q .normal a' w') l a):(Code.region id l.toArray true).wpIn F n P Q a w:=by
 simp only[Region.lexB,yu]at hB;refine wpIn_region_any hm (eX (C:=fun w'=>∃u:GrW w,w'=u.val) (Q:=fun a'=>∀w',(∃u:GrW w,w'=u.val)->Q .normal a' w') hnd (fun _ w' hw' h=>h w' hw') _ _ _ _ ⟨⟨w.drew,(yO w).drew⟩,rfl⟩ ?_);have:=wpAnyQIn_lex (F:=F) (n:=n) (C:=fun w'=>∃u:GrW w,w'=u.val) (md:=.any) hB.1 l 0 (Array.replicate l.toArray.size false) a (by simp) (by simpa using hB.2) h;simpa using this
end
theorem lD {F:Fence}{f:FuncId}(u:GrW w)
  (h:CallsIn F r P f args u.val (RG v u.val)):CallsIn F r P f args u.val fun e w''=>e=.returned v/\∃u':GrW w,w''=u'.val :=
 h.mono fun _ w' ⟨d,g⟩=>⟨d,⟨w',u.gr.trans g⟩,rfl⟩
theorem lV {F:Fence}{f:FuncId}
  (h:CallsIn F r P f args (w.drewN n) fun e w'=>e=.returned v/\w.drewN n=w'):CallsIn F r P f args (w.drewN n) fun e w''=>e=.returned v/\∃m,w''=w.drewN m :=
 h.mono fun _ _ ⟨d,g⟩=>⟨d,n,g.symm⟩
attribute [local go_sem] Oper.semAt_some
theorem ik:∀(bs:List Bool)(k b:Nat),En (Du bs k) (b:Int)=(decide (k<=b) && bs.getD (b-k) false)
 | [],k,b=>by simp[Du,En]
 | x::r,k,b=>by
  have ih:=ik r (k+1) b
  unfold En at ih ⊢;rw[Du];rcases Nat.lt_trichotomy b k with h|h|h
  ·have g:decide (k<=b)=false:=by simp;omega
   have d:decide (k+1<=b)=false:=by simp;omega
   rw[d,Bool.false_and]at ih;rw[g,Bool.false_and];split
   ·rw[List.any_cons,ih];simp;omega
   ·exact ih
  ·subst h;have d:decide (b+1<=b)=false:=by simp
   rw[d,Bool.false_and]at ih
   cases x with
   | true=>simp
   | false=>simp only[Bool.false_eq_true,if_false];rw[ih];simp
  ·have g:decide (k<=b)=true:=by simp;omega
   have d:decide (k+1<=b)=true:=by simp;omega
   rw[d,Bool.true_and]at ih;rw[g,Bool.true_and,show b-k=(b-(k+1))+1 by omega,List.getD_cons_succ];split
   ·rw[List.any_cons,ih];have:decide ((k:Int)=(b:Int))=false:=by simp;omega
    rw[this,Bool.false_or]
   ·exact ih
theorem mP (g:List (List Int))(b:Nat)(h:b<10):En (Hj g) (b:Int)=rb g b:=by unfold Hj;rw[ik];simp[h]
theorem pg {v:Int}(h:0<=Ref.kind f v):0<=v/\v<An f:=by
 unfold Ref.kind at h;split at h
 ·omega
 ·omega
theorem pV (h:Aj f x=true):∀v∈x.args,0<=v/\v<An f:=by unfold Aj at h;simp only[yu]at h;intro v hv;have:=ym.1 h.1 v hv;exact pg (by simpa using this)
theorem kE (v:Value)(f:Fn)(w:World)(hf:FnAt w.heap.size w v f)(hb1:1<=f.b.length)(hb10:f.b.length<=10)(hit:(zW f).length<=1000000)(hpl:f.p.length<=100000)(hln:Hid (∀l∈f.b,l.length<=100000))
  (hA:Hid (∀l∈f.b,∀x∈l,zm f x=true)) (hL:Hid (f.b.all Ref.laid=true)) (hT:Hid (∀l∈f.b,∀x∈l,Aj f x=true)) :
  Calls prog 67 #[v] w (RG (.bool ((zW f).all (Es f (n5 f)))) w):=by
 have hv:=gY hA.out hL.out hb1 hb10;have bp:Hid (∀l∈f.b,l≠[]):=fun l hl=>kG (ym.1 hL.out l hl);have bl:=hf
 have HH:Hid (∀A,Gr w A->Calls prog 105 #[v] A fun e w'=>∃A1 n1 c1 A2 n2 c2 A3 n3 c3,e=.returned (.agg #[.int .i64 f.p.length,.slice A1 n1 c1,.slice A2 n2 c2,.slice A3 n3 c3])/\Hid (IntsAt w'.heap.size w' (.slice A1 n1 c1) (sZ f)/\IntsAt w'.heap.size w' (.slice A2 n2 c2) (fV f)/\TabAt w'.heap.size w' (.slice A3 n3 c3) (n5 f))/\Gr A w'):=by intro A q;refine(rg v f A (hf.gr q) (by omega) hit bp).mono ?_;rintro e w' ⟨vb,va,vg,q1,q2,q3,q4,q5⟩;have r2:=q2;have r3:=q3;have r4:=q4;obtain⟨A1,c1,rfl,-,-,-⟩:=q2;obtain⟨A2,c2,rfl,-,-,-⟩:=q3;obtain⟨A3,c3,rfl,-,-,-⟩:=q4;exact⟨A1,_,c1,A2,_,c2,A3,_,c3,q1,⟨r2,r3,r4⟩,q5⟩
 have a4:Hid (∀A u,TabAt A.heap.size A u (n5 f)->Calls prog 106 #[u] A fun e w'=>∃Y n4 c4,e=.returned (.tuple #[.slice Y n4 c4,.int .i64 0])/\Hid (IntsAt w'.heap.size w' (.slice Y n4 c4) (Hj (n5 f)))/\Gr A w'):=by intro A u h;refine(mp u (n5 f) A h hv).mono ?_;rintro e w' ⟨vl,q1,q2,q3⟩;have r2:=q2;obtain⟨Y,c4,rfl,-,-,-⟩:=q2;exact⟨Y,_,c4,q1,r2,q3⟩
 obtain⟨vp,vs,vb,rfl,hp,aR,hb⟩:=hf;obtain⟨Ap,cp,rfl,-,-,-⟩:=hp;obtain⟨As,cs,rfl,-,-,-⟩:=aR;obtain⟨Ab,cb,rfl,-,bL,aH⟩:=hb;obtain⟨bb,ob,rfl,aI,R⟩:=aH (by omega);have HC:=dJ R;obtain⟨W,hW⟩:=xJ ((w.alloc (.cells #[.slice Ap f.p.length cp,.int .i64 f.ret,.slice As f.s.length cs,.slice (some ⟨bb,ob,none⟩) f.b.length cb] 36)).alloc (.cells #[.bool false] 4));have aw:Gr w W:=by rw[<-hW];exact((yO w).alloc _).alloc _
 have bK:W.heap.size=w.heap.size+2:=by rw[<-hW];simp
 have g0:Gr (w.alloc (.cells #[.slice Ap f.p.length cp,.int .i64 f.ret,.slice As f.s.length cs,.slice (some ⟨bb,ob,none⟩) f.b.length cb] 36)) W:=by rw[<-hW];exact(yO _).alloc _
 have B0:Hid (∀w',Gr W w'->w'.cell? ⟨w.heap.size,0,none⟩=some (.slice Ap f.p.length cp)/\w'.cell? ⟨w.heap.size,1,none⟩=some (.int .i64 f.ret)/\w'.cell? ⟨w.heap.size,2,none⟩=some (.slice As f.s.length cs)/\w'.cell? ⟨w.heap.size,3,none⟩=some (.slice (some ⟨bb,ob,none⟩) f.b.length cb)) :=
  fun w' q=>⟨(q.cell _ _ (by omega)).trans (df _ _ 0 g0 rfl),(q.cell _ _ (by omega)).trans (df _ _ 1 g0 rfl),(q.cell _ _ (by omega)).trans (df _ _ 2 g0 rfl),(q.cell _ _ (by omega)).trans (df _ _ 3 g0 rfl)⟩
 have bv:W.heap[w.heap.size+1]?=some (.cells #[.bool false] 4 (0,0)):=by rw[<-hW];exact heap_alloc2_new w _ _
 have R0:Hid (∀w',Gr W w'->w'.heap[w.heap.size+1]?=some (.cells #[.bool false] 4 (0,0))):=fun w' q=>(q.heap _ (by omega)).trans bv;have aX:Hid (∀A,Calls prog 62 #[.agg #[.slice Ap f.p.length cp,.int .i64 f.ret,.slice As f.s.length cs,.slice (some ⟨bb,ob,none⟩) f.b.length cb]] A fun e w'=>e=.returned (.func (.func 92) #[] #[.pointer (some ⟨A.heap.size,0,none⟩)])/\w'=A.alloc (.cells #[.slice Ap f.p.length cp,.int .i64 f.ret,.slice As f.s.length cs,.slice (some ⟨bb,ob,none⟩) f.b.length cb] 36)):=fun A=>kY f Ap As _ _ _ _ cp cs cb A;have HV:=dJ hv;refine(callsIn_wide (n:=5)).1 ?_;refine callsIn_of_wp_marks func67 rfl trivial ?_ rfl;simp only[ntmps67,List.size_toArray,List.length_cons,List.length_nil,Nat.reduceAdd,Nat.reduceSub,Array.replicate_succ,Array.replicate_zero,List.push_toArray,List.append_toArray,List.nil_append,List.cons_append];refine wpIn_wide.2 ?_;obtain⟨k0,k1,k2,k3⟩:=B0.out W (yO _);clear g0 R aH hv
 go_wp2_with (first|(go_at_call 105;refine(HH.out _ aw).mono ?_;rintro e A ⟨A1,n1,c1,A2,n2,c2,A3,n3,c3,rfl,HI,g1⟩)|(go_at_call 106;refine(a4.out _ _ (HI.out.2.2.gr ((yO _).alloc _))).mono ?_;rintro e N ⟨Y,n4,c4,rfl,a0,g2⟩;have M:Gr W N:=g1.trans (((yO _).alloc _).trans g2);have hq:∀o,(N.alloc o).cell? ⟨w.heap.size,0,none⟩=some (.slice Ap f.p.length cp):=fun o=>(B0.out _ (M.alloc o)).1;have br:∀o,(N.alloc o).cell? ⟨w.heap.size,1,none⟩=some (.int .i64 f.ret):=fun o=>(B0.out _ (M.alloc o)).2.1;have bs:∀o,(N.alloc o).cell? ⟨w.heap.size,2,none⟩=some (.slice As f.s.length cs):=fun o=>(B0.out _ (M.alloc o)).2.2.1;have bu:∀o,(N.alloc o).cell? ⟨w.heap.size,3,none⟩=some (.slice (some ⟨bb,ob,none⟩) f.b.length cb):=fun o=>(B0.out _ (M.alloc o)).2.2.2)|(go_at_call 62;refine(aX.out _).mono ?_;rintro e w3 ⟨rfl,rfl⟩))
 obtain⟨U,ad⟩:=xJ ((N.alloc (.cells #[.slice Y n4 c4] 33)).alloc (.cells #[.slice Ap f.p.length cp,.int .i64 f.ret,.slice As f.s.length cs,.slice (some ⟨bb,ob,none⟩) f.b.length cb] 36));have S:Gr N U:=by rw[<-ad];exact((yO _).alloc _).alloc _
 have C:Gr W U:=M.trans S;have j:Gr w U:=aw.trans C;have bQ:U.heap.size<=N.heap.size+2/\N.heap.size+2<=U.heap.size:=by rw[<-ad];simp
 have an:∀o,U.cell? ⟨N.heap.size+1,o,none⟩=(#[.slice Ap f.p.length cp,.int .i64 f.ret,.slice As f.s.length cs,.slice (some ⟨bb,ob,none⟩) f.b.length cb]:Array Value)[o]?:=by intro o;rw[<-ad];exact yo _ _ _ _ _ _ (heap_alloc2_new N _ _)
 have aP:U.heap[N.heap.size]?=some (.cells #[.slice Y n4 c4] 33 (0,0)):=by rw[<-ad];exact heap_alloc2_old N _ _
 have bO:A.heap.size+1<=N.heap.size:=by have:=g2.size;simp at this;omega
 have aL:U.heap[A.heap.size]?=some (.cells #[.int .i64 f.p.length,.slice A1 n1 c1,.slice A2 n2 c2,.slice A3 n3 c3] 129 (0,0)):=((g2.trans S).heap _ (by simp)).trans (heap_alloc_new A _)
 have KP:Hid (∀w',Gr U w'->w'.heap[N.heap.size]?=some (.cells #[.slice Y n4 c4] 33 (0,0))/\w'.heap[A.heap.size]?=some (.cells #[.int .i64 f.p.length,.slice A1 n1 c1,.slice A2 n2 c2,.slice A3 n3 c3] 129 (0,0))) :=
  fun w' q=>⟨(q.heap _ (by omega)).trans aP,(q.heap _ (by omega)).trans aL⟩
 have aE:Hid (∀(z:Int)(b:Nat)(J:Int) w',Gr U w'->0<=z->z<An f->b<f.b.length->rb (n5 f) b=true->Calls prog 107 #[.agg #[.int .i64 f.p.length,.slice A1 n1 c1,.slice A2 n2 c2,.slice A3 n3 c3],.int .i64 z,.int .i64 b,.int .i64 J] w' (RG (.bool (DJ f (n5 f) z b J)) w')):=by intro z b J w' q h1 h2 h3 h4;have q':Gr A w':=((yO _).alloc _).trans (g2.trans (S.trans q));exact mU f _ _ _ z b J w' (HI.out.1.gr q') (HI.out.2.1.gr q') (HI.out.2.2.gr q') HV.out h1 h2 h3 h4 hpl hit
 have am:Hid (∀(b:Nat) w',Gr U w'->b<10->Calls prog 85 #[.slice Y n4 c4,.int .i64 b] w' (RS (.bool (rb (n5 f) b)) w')):=by intro b w' q h;rw[<-mP _ b h];exact fB _ _ _ w' (a0.out.gr (S.trans q))
 have bP:=aw.size;have bU:=j.size;rw[ad];clear hq br bs bu k0 k1 k2 k3 aP aL
 refine gO (w:=w) (f:=f) (q:=6) (Bf:=N.heap.size+1) rfl bl j (by omega) (by omega) (an 0) (an 3) (fun Q O=>(∀it∈Q,Es f (n5 f) it=true)/\Gr U O)
  (fun c Q O=>c=.ret/\(∃it∈Q,Es f (n5 f) it=false)/\Below w.heap.size w O/\O.heap[w.heap.size+1]?=some (.cells #[.bool false] 4 (0,0)))
  (OwnFrom.and (ownFrom_pure _ _) (fP U)) (fun c=>OwnFrom.and (ownFrom_pure _ _) (OwnFrom.and (ownFrom_pure _ _) (OwnFrom.and (ownFrom_below (yJ _) (by omega)) (eY _ _ _)))) (fun Q O h=>h.2.size) ⟨fun it h=>by simp at h,yO _⟩ ?hassign ?hbody ?hdone ?hstop
 case hassign =>
  intro l it aa ta ca ct O K G;simp only[yF,List.set_cons_succ,List.set_cons_zero,mK,rV]at G ⊢;gi_wp2;exact G
 case hbody =>
  rintro l Q it aa ta ca ct O Bx ⟨ah,E⟩ bA aU ao ay bJ aj;simp only[yF,List.set_cons_succ,List.set_cons_zero,mK];obtain⟨lb,e1,e2⟩:=gJ f it ao;have az:=xT e1;have aA:=xT e2;have av:=fZ f it.ins (hA.out lb az it.ins aA);have a7:=dJ (pV (hT.out lb az it.ins aA));have a6:=dJ av.1;have aZ:Hid (it.ins.op=28->it.ins.to.length=it.ins.args.length):=av.2;have bi:it.blk<f.b.length:=(xS.1 e1).1;have bG:Hid (Q.length<(zW f).length+1):=ay;have bN:=E.size;have HX:Hid (∀w' o,Gr O w'->w'.cell? ⟨Bx,o,none⟩=(rV it aa ta ca ct)[o]?):=fun w' o q=>(q.cell Bx o (xY.1 aj).1).trans (yo _ _ _ _ _ _ aj);have x0:O.cell? ⟨Bx,0,none⟩=some (.int .i64 it.ins.op):=HX.out _ 0 (yO _);have x3:O.cell? ⟨Bx,3,none⟩=some (.slice aa it.ins.args.length ca):=HX.out _ 3 (yO _);have x7:O.cell? ⟨Bx,7,none⟩=some (.int .i64 it.blk):=HX.out _ 7 (yO _);have bm:=cell_of_one (KP.out _ E).1;have aq:=dJ (am.out it.blk O E (by omega));obtain⟨bC,ai⟩:=xJ (rb (n5 f) it.blk);have au:=dJ ai;rw[ai]at aq;clear e1 e2 az aA av ao ay aj ai
  cases bC with
  | false =>
   have ar:Hid (Es f (n5 f) it=true):=by show _=_;unfold Es;rw[au.out];rfl
   gi_wp2_with (refine⟨trivial,?_⟩;gi_at_call 85;refine(CallsIn.inRound l (callsIn_wide.2 aq.out)).mono ?_;rintro e w4 ⟨rfl,rfl⟩);refine⟨(KeepsOthers.refl _).from _,Below.refl _ _,?_,E⟩;intro aD ax;rcases yz.1 ax with h|h
   ·exact ah aD h
   ·simp at h;subst h;exact ar.out
  | true =>
   have ar:Hid (Es f (n5 f) it=DF f (n5 f) (Ar (n5 f) (-1)) it.blk it.pos it.ins it.ins.args 0):=by show _=_;unfold Es;rw[au.out];rfl
   gi_wp2_with (refine⟨trivial,?_⟩;gi_at_call 85;refine(CallsIn.inRound l (callsIn_wide.2 aq.out)).mono ?_;rintro e w4 ⟨rfl,rfl⟩);obtain⟨Aa,bH,ea,a1,a2,a3⟩:=bA;have aG:=dJ a3;simp only[Value.slice.injEq,true_and]at ea;obtain⟨bd,be⟩:=ea;subst bd;subst be
   gi_loopw [7,8,9,30] (fun _ _ _ i wr=>∃m:Nat,m<=it.ins.args.length/\i=.int .i64 m/\Gr O wr/\Hid (Es f (n5 f) it=DF f (n5 f) (Ar (n5 f) (-1)) it.blk it.pos it.ins (it.ins.args.drop m) m)) (fun _ _ _ i _=>it.ins.args.length-(intOf i).toNat)
   case atStart=>exact⟨0,yI _,rfl,yO _,ar⟩
   case round =>
    obtain⟨m,hm,rfl,y,I⟩:=hrel;obtain⟨L,rfl⟩:∃L:World,L=wr:=⟨_,rfl⟩;clear x0 x3 x7 bm;rcases hr:it.ins.args.drop m with _|⟨z,r⟩
    ·have bo:=dw hr hm;have HE:Hid (Es f (n5 f) it=true):=by show _=_;rw[I.out,hr];rfl
     have bM:(it.ins.args.length:Int)<=m:=by omega
     clear hr I bo a3;gi_wp2;refine⟨y.keeps.from _,Below.mono y (by omega),?_,E.trans y⟩;intro aD ax;rcases yz.1 ax with h|h
     ·exact ah aD h
     ·simp at h;subst h;exact HE.out
    ·obtain⟨ay,hz,aO⟩:=dr hr;obtain⟨ba,oa,e3,bh,aJ⟩:=aG.out (by omega);subst e3;have bV:=((j.trans (E.trans y)).cell _ _ bh).trans (aJ m z hz);have bB:=a7.out z (xT hz);have d:=E.trans y;have x0:L.cell? ⟨Bx,0,none⟩=some (.int .i64 it.ins.op):=HX.out _ 0 y;have ab:Hid (Es f (n5 f) it=(E1 f (n5 f) (Ar (n5 f) (-1)) it.blk it.pos it.ins z (it.ins.to.getD m 0) && DF f (n5 f) (Ar (n5 f) (-1)) it.blk it.pos it.ins r (m+1))):=by show _=_;rw[I.out,hr];rfl
     have ac:Hid (it.ins.args.drop (m+1)=r):=aO;have bF:(m:Int)<it.ins.args.length:=by omega
     have ae:=R0.out _ (C.trans d);have rc:=cell_of_one ae;have rf:=free_of_one ae;obtain⟨aW,al⟩:=bB;clear hr hz aO I aJ a3;by_cases ho:it.ins.op=28
     ·have bq:(it.ins.op != 28)=false:=by simp[ho]
      have bn:=aZ.out ho;obtain⟨tz,ht⟩:∃tz,it.ins.to[m]?=some tz:=⟨it.ins.to[m]'(by omega),xR (by omega)⟩;have aT:=a6.out tz (xT ht);obtain⟨F,rfl⟩:=xZ aT.1;have aS:F<f.b.length:=by omega
      have aV:=aU;obtain⟨At,bI,et,t1,t2,t3⟩:=aU;simp only[Value.slice.injEq,true_and]at et;obtain⟨bf,bg⟩:=et;subst bf;subst bg;obtain⟨bt,ot,e4,bk,aK⟩:=t3 (by omega);subst e4;have bR:=((j.trans d).cell _ _ bk).trans (aK m (F:Int) ht);have x5:L.cell? ⟨Bx,5,none⟩=some (.slice (some ⟨bt,ot,none⟩) it.ins.to.length ct):=HX.out _ 5 y;have bS:(m:Int)<it.ins.to.length:=by omega
      obtain⟨lt,T⟩:∃lt,f.b[F]?=some lt:=⟨f.b[F],xR aS⟩;obtain⟨u,hu,bz⟩:=HC.out F lt T;obtain⟨Al,cl,rfl,p1,p2,-⟩:=bz;have bx:∀n,(L.drewN n).cell? ⟨bb,ob+F,none⟩=some (.slice Al lt.length cl):=fun n=>((j.trans (d.trans ((yO _).drewN n))).cell _ _ aI).trans hu;have ap:=((j.trans d).cell _ _ aI).trans hu;obtain⟨c0,a8,a9,bc⟩:=B0.out _ (C.trans d);have bT:(F:Int)<f.b.length:=by omega
      have X:=KP.out _ d;have y0:=cell_of_one X.1;obtain⟨h0,h1,h2,h3⟩:=crw4 X.2 0 1 2 3;have aY:Hid (it.ins.to.getD m 0=(F:Int)):=by show _=_;simp[List.getD,ht]
      have H:Hid (E1 f (n5 f) (Ar (n5 f) (-1)) it.blk it.pos it.ins z (it.ins.to.getD m 0)=(!rb (n5 f) F || DJ f (n5 f) z F lt.length)):=by show _=_;rw[aY.out,mV f _ z F lt T al];unfold E1 rb;rw[yr ho];simp
      have Z:Hid (∀w',Gr L w'->Calls prog 85 #[.slice Y n4 c4,.int .i64 F] w' (RS (.bool (rb (n5 f) F)) w')):=fun w' q=>am.out F w' (d.trans q) (by omega)
      have B:Hid (rb (n5 f) F=true->∀w',Gr L w'->Calls prog 107 #[.agg #[.int .i64 f.p.length,.slice A1 n1 c1,.slice A2 n2 c2,.slice A3 n3 c3],.int .i64 z,.int .i64 F,.int .i64 lt.length] w' (RG (.bool (DJ f (n5 f) z F lt.length)) w')) :=
       fun ai w' q=>aE.out z F _ w' (d.trans q) aW al aS ai
      obtain⟨rt,aQ⟩:=xJ (rb (n5 f) F);obtain⟨th,ak⟩:=xJ (DJ f (n5 f) z F lt.length);rw[aQ]at H Z B;rw[ak]at H B;have aR:lt.length<=100000:=hln.out lt (xT T);clear ho bn ht aT aK t3 T hu X aQ ak aV
      cases rt with
      | false =>
       gi_wp2;refine kM (by kernel_rfl) (by kernel_rfl) (by kernel_rfl) ?_
       repeat (first
         | gi_big_quiet_step (fail)
         | (refine wpQuietIn_step (fun _ _ _ _=>trivial) (fun K G=>?_)
            go_simp
            first
              | (refine G _ ?_;clear G K)
              | (apply Exists.intro
                 refine⟨fun _=>?_,G _ ?_⟩
                 (gi_at_call 85;exact lV (CallsIn.inRound l (callsIn_wide.2 (Z.out _ ((yO L).drewN _)))))
                 clear G K)))
       refine wpQuietIn_nil ?_;intro w9 aC;obtain⟨nq,rfl⟩:=aC;gi_wp2;go_roundw;case rel=>exact⟨m+1,by omega,by go_num,y.drewN _,by (show _=_;rw[ab.out,H.out,ac.out];simp)⟩
       case measure=>simp[intOf];omega
      | true =>
       have aF:=dJ (B.out rfl);have U0:∀u:GrW L,u.val.cell? ⟨N.heap.size,0,none⟩=some (.slice Y n4 c4):=fun u=>cell_of_one (KP.out _ (d.trans u.gr)).1;have U1:∀u:GrW L,u.val.cell? ⟨A.heap.size,0,none⟩=some (.int .i64 f.p.length):=fun u=>yo _ _ 0 _ _ _ (KP.out _ (d.trans u.gr)).2;have U2:∀u:GrW L,u.val.cell? ⟨A.heap.size,1,none⟩=some (.slice A1 n1 c1):=fun u=>yo _ _ 1 _ _ _ (KP.out _ (d.trans u.gr)).2;have U3:∀u:GrW L,u.val.cell? ⟨A.heap.size,2,none⟩=some (.slice A2 n2 c2):=fun u=>yo _ _ 2 _ _ _ (KP.out _ (d.trans u.gr)).2;have U4:∀u:GrW L,u.val.cell? ⟨A.heap.size,3,none⟩=some (.slice A3 n3 c3):=fun u=>yo _ _ 3 _ _ _ (KP.out _ (d.trans u.gr)).2;have U5:∀u:GrW L,u.val.cell? ⟨w.heap.size,3,none⟩=some (.slice (some ⟨bb,ob,none⟩) f.b.length cb):=fun u=>(B0.out _ (C.trans (d.trans u.gr))).2.2.2;have U6:∀u:GrW L,u.val.cell? ⟨bb,ob+F,none⟩=some (.slice Al lt.length cl):=fun u=>(u.gr.cell _ _ (by have:=j.size;have:=d.size;omega)).trans ap;have UR:Hid (∀u:GrW L,u.val.heap[w.heap.size+1]?=some (.cells #[.bool false] 4 (0,0))):=fun u=>R0.out _ (C.trans (d.trans u.gr));clear c0 a8 a9 bc y0 h0 h1 h2 h3 bx ap rc rf ae;gi_wp2;refine jA (by kernel_rfl) (by kernel_rfl) (by kernel_rfl) ?_
       repeat
        (refine wpQuietIn_step (fun _ _ _ _=>trivial) (fun K G=>?_)
         go_simp
         first
           | (refine G _ ?_;clear G K)
           | (refine⟨_,fun _=>rfl,G _ ?_⟩;clear G K)
           | (apply Exists.intro
              refine⟨fun u=>?_,G _ ?_⟩
              (first|(gi_at_call 85;exact lD u (CallsIn.inRound l (callsIn_wide.2 ((Z.out _ u.gr).mono fun _ _ h=>⟨h.1,h.2 ▸ yO _⟩))))|(gi_at_call 107;exact lD u (CallsIn.inRound l (callsIn_wide.2 (aF.out _ u.gr)))))
              clear G K))
       refine wpQuietIn_nil ?_;intro w9 aC;obtain⟨u9,rfl⟩:=aC;have ag:=UR.out u9;have bD:=cell_of_one ag;have bE:=free_of_one ag;have g6:=u9.gr;clear U0 U1 U2 U3 U4 U5 U6;cases th
       ·gi_wp2;refine⟨((y.trans g6).keeps.trans (KeepsOthers.setCell _ _ _)).from _,rfl,⟨it,by simp,by rw[ab.out,H.out];rfl⟩,?_,?_⟩
        ·exact Below.setCell (j.trans (d.trans g6)) (p:=⟨w.heap.size+1,0,none⟩) (by show w.heap.size<=w.heap.size+1;omega) _
        ·exact cX (i:=0) (.bool false) ag
       ·gi_wp2;go_roundw;case rel=>exact⟨m+1,by omega,by go_num,y.trans g6,by (show _=_;rw[ab.out,H.out,ac.out];simp)⟩
        case measure=>simp[intOf];omega
     ·have bq:(it.ins.op != 28)=true:=by simp[ho]
      have x7:L.cell? ⟨Bx,7,none⟩=some (.int .i64 it.blk):=HX.out _ 7 y;have x8:L.cell? ⟨Bx,8,none⟩=some (.int .i64 it.pos):=HX.out _ 8 y;have X:=KP.out _ d;obtain⟨h0,h1,h2,h3⟩:=crw4 X.2 0 1 2 3
      have H:Hid (E1 f (n5 f) (Ar (n5 f) (-1)) it.blk it.pos it.ins z (it.ins.to.getD m 0)=DJ f (n5 f) z it.blk it.pos):=by show _=_;rw[mW f _ z _ _ al (by omega)];unfold E1;rw[yt ho]
      have B:=dJ (aE.out z it.blk it.pos L d aW al bi au.out);obtain⟨th,ak⟩:=xJ (DJ f (n5 f) z it.blk it.pos);rw[ak]at H B;clear ho ak X
      cases th with
      | false =>
       gi_wp2_with (refine⟨trivial,?_⟩;gi_at_call 107;refine(CallsIn.inRound l (callsIn_wide.2 B.out)).mono ?_;rintro e w5 ⟨rfl,g5⟩;have af:=R0.out _ (C.trans (d.trans g5));have bW:=cell_of_one af;have bX:=free_of_one af);refine⟨((y.trans g5).keeps.trans (KeepsOthers.setCell _ _ _)).from _,rfl,⟨it,by simp,by rw[ab.out,H.out];rfl⟩,?_,?_⟩
       ·exact Below.setCell (j.trans (d.trans g5)) (p:=⟨w.heap.size+1,0,none⟩) (by show w.heap.size<=w.heap.size+1;omega) _
       ·exact cX (i:=0) (.bool false) af
      | true =>
       gi_wp2_with (refine⟨trivial,?_⟩;gi_at_call 107;refine(CallsIn.inRound l (callsIn_wide.2 B.out)).mono ?_;rintro e w5 ⟨rfl,g5⟩);go_roundw;case rel=>exact⟨m+1,by omega,by go_num,y.trans g5,by (show _=_;rw[ab.out,H.out,ac.out];simp)⟩
       case measure=>simp[intOf];omega
 case hdone =>
  rintro D O hD ⟨ah,E⟩ G;have aB:=R0.out _ (C.trans E);have bD:=cell_of_one aB;have bE:=free_of_one aB;have a5:Hid ((zW f).all (Es f (n5 f))=true):=ym.2 ah;have HK:=dJ G;clear ah G;go_wp2;refine wR (w0:=w) (Br:=w.heap.size+1) (b:=true) (t:=2) rfl ((KeepsOthers.setCell _ _ _).same D _ HK.out rfl) rfl rfl (cX (i:=0) (.bool true) aB) (Below.setCell (j.trans E) (p:=⟨w.heap.size+1,0,none⟩) (by show w.heap.size<=w.heap.size+1;omega) _) (by omega) ?_;exact fun w' g=>⟨cZ (by rw[a5.out]),g⟩
 case hstop =>
  rintro D c Q O hD aN ⟨rfl,⟨it,hm,aM⟩,hB,bj⟩ G;have HF:Hid ((zW f).all (Es f (n5 f))=false):=List.all_eq_false.2 ⟨it,aN.subset hm,by simp[aM]⟩;have HK:=dJ G;clear G hm aM;go_wp2;refine wR (w0:=w) (Br:=w.heap.size+1) (b:=false) (t:=2) rfl HK.out rfl rfl bj hB (by omega) ?_;exact fun w' g=>⟨cZ (by rw[HF.out]),g⟩
attribute [local go_sem] Oper.semAt_some
theorem dY (fn:Func)(tmps:Array Value)(t:Nat)(w:World)(Br:Nat)(b:Int)(h:fn.results=#[.cell t 44])(ht:tmps[t]?.getD undef=.pointer (some ⟨Br,0,none⟩))(hc:w.cell? ⟨Br,0,none⟩=some (.int .i64 b)) :
  (results fn tmps).run prog w=.ok (.int .i64 b) w:=by simp[results,h,ht,go_sem,hc]
theorem wG (hd:a.defers=[{target:=.collected D,args:=#[]}])(hK:w.heap[D]?=some (.deferred (some [])))(hf:fn.results=#[.cell t 44])(ht:a.tmps[t]?.getD undef=.pointer (some ⟨Br,0,none⟩))
  (hb:w.heap[Br]?=some (.cells #[.int .i64 b] 44 (0,0))) (hw:Below w0.heap.size w0 w) (hD:w0.heap.size<=D) (hR:∀w',Gr w0 w'->R (.returned (.int .i64 b)) w'):bodyPostM Fence.wide 5 prog fn R .ret a w:=by
 have g:Br≠D:=fun e=>by rw[e,hK]at hb;cases hb
 have d:(w.putObj D (.deferred none)).heap[Br]?=some (.cells #[.int .i64 b] 44 (0,0)):=(World.putObj_heap_other g).trans hb;refine xb hd hK (dY fn a.tmps t _ Br b hf ht (cell_of_one d)) (hR _ ?_);exact Below.trans hw (belowK_b (w:=w0) (yJ _) w D _ _ hD hK rfl rfl)
theorem vT {D2:Nat}(hd:a.defers=[{target:=.collected D2,args:=#[]},{target:=.collected D,args:=#[]}])(hK2:w.heap[D2]?=some (.deferred (some [])))(hK:w.heap[D]?=some (.deferred (some [])))(hDD:D≠D2)(hf:fn.results=#[.cell t 44])(ht:a.tmps[t]?.getD undef=.pointer (some ⟨Br,0,none⟩))
  (hb:w.heap[Br]?=some (.cells #[.int .i64 b] 44 (0,0))) (hw:Below w0.heap.size w0 w) (hD:w0.heap.size<=D) (hD2:w0.heap.size<=D2) (hR:∀w',Gr w0 w'->R (.returned (.int .i64 b)) w'):bodyPostM Fence.wide 5 prog fn R .ret a w:=by
 have l:Br≠D:=fun e=>by rw[e,hK]at hb;cases hb
 have g:Br≠D2:=fun e=>by rw[e,hK2]at hb;cases hb
 have d:(w.putObj D2 (.deferred none)).heap[D]?=some (.deferred (some [])):=(World.putObj_heap_other hDD).trans hK;have j:((w.putObj D2 (.deferred none)).putObj D (.deferred none)).heap[Br]?=some (.cells #[.int .i64 b] 44 (0,0)):=(World.putObj_heap_other l).trans ((World.putObj_heap_other g).trans hb);show LeavesInM Fence.wide 5 prog fn a.tmps R a.defers .returning w;rw[hd];refine mZ hK2 (mZ d (mY (dY fn a.tmps t _ Br b hf ht (cell_of_one j)) (hR _ ?_)));exact Below.trans (Below.trans hw (belowK_b (w:=w0) (yJ _) w D2 _ _ hD2 hK2 rfl rfl)) (belowK_b (w:=w0) (yJ _) (w.putObj D2 (.deferred none)) D _ _ hD d rfl rfl)
theorem tj (h:zm f x=true):(ir x.op=3->2<=x.args.length)/\(ir x.op=4->3<=x.args.length)/\(ir x.op=5->1<=x.args.length)/\(ir x.op=6->1<=x.args.length)/\(ir x.op=11->2<=x.args.length)/\(ir x.op=12->1<=x.args.length)/\(ir x.op=13->2<=x.args.length)/\(ir x.op=16->1<=x.args.length):=by
 obtain⟨g,d⟩:=qq h;by_cases l:x.op<0\/32<x.op
 ·rw[jo f x l]at d;cases d
 rcases (by omega:x.op=0\/(1<=x.op/\x.op<=13)\/x.op=14\/x.op=15\/x.op=16\/x.op=17\/x.op=18\/x.op=19\/x.op=20\/x.op=21\/x.op=22\/x.op=23\/x.op=24\/x.op=25\/x.op=26\/x.op=27\/x.op=28\/x.op=29\/x.op=30\/x.op=31\/x.op=32) with h|h|h|h|h|h|h|h|h|h|h|h|h|h|h|h|h|h|h|h|h
 case inr.inl =>
  have j:ir x.op=2:=by rcases (by omega:x.op=1\/x.op=2\/x.op=3\/x.op=4\/x.op=5\/x.op=6\/x.op=7\/x.op=8\/x.op=9\/x.op=10\/x.op=11\/x.op=12\/x.op=13) with e|e|e|e|e|e|e|e|e|e|e|e|e;all_goals (rw[e];rfl)
  rw[j];simp
 all_goals (rw[h];simp[zY,h]at g;simp[ir];try omega)
theorem jC (h:¬(3<f.p.length\/2<f.s.length\/f.b.length<1\/10<f.b.length))(ht:¬40<AX f.b) :
  zL f=if GF f=false then 1 else if f.b.all (fun l=>l.all (zm f))=false then 1 else if C7 f=false then 7 else if f.b.all (fun l=>l.all (Aj f))=false then 6 else if BU f=false then 9 else 0:=by
 unfold zL;rw[yt h,yt ht];unfold GF;by_cases d:f.ret<0\/32<f.ret
 ·rw[yr d,yr];rcases d with d|d<;>simp<;>omega
 ·rw[yt d];have g:decide (0<=f.ret)=true:=by simp;omega
  have j:decide (f.ret<=32)=true:=by simp;omega
  rw[g,j];cases f.p.all yS<;>cases f.s.all BH<;>simp
theorem tL (v:Value)(f:Fn)(w:World)(hf:FnAt w.heap.size w v f)(hs:f.b.length<=100000)(hln:Hid (∀l∈f.b,l.length<=100000))(hwf:Hid (∀l∈f.b,∀x∈l,WfI x))(hfl:Hid (∀l∈f.b,∀x∈l,-9223372036854775808<=x.g/\x.g<=9223372036854775807)) :
  Calls prog 42 #[v] w (RG (.int .i64 (zL f)) w):=by
 have ah:=hf;have aC:Hid (∀y,Gr w y->Calls prog 60 #[v] y (RG (.int .i64 (AX f.b)) y)):=fun y q=>un v f y (hf.gr q) hs;have az:Hid (∀y,Gr w y->Calls prog 61 #[v] y (RG (.bool (GF f)) y)):=fun y q=>pa v f y (hf.gr q);obtain⟨vp,vs,vb,rfl,hp,ba,hb⟩:=hf;obtain⟨Z,cp,rfl,bl,bm,-⟩:=hp;obtain⟨R,cs,rfl,bo,a9,-⟩:=ba;obtain⟨Q,S,rfl,bi,bj,-⟩:=hb;obtain⟨W,hW⟩:=xJ ((w.alloc (.cells #[.slice Z f.p.length cp,.int .i64 f.ret,.slice R f.s.length cs,.slice Q f.b.length S] 36)).alloc (.cells #[.int .i64 0] 44));have F:Gr w W:=by rw[<-hW];exact((yO w).alloc _).alloc _
 have bh:W.heap.size=w.heap.size+2:=by rw[<-hW];simp
 have g0:Gr (w.alloc (.cells #[.slice Z f.p.length cp,.int .i64 f.ret,.slice R f.s.length cs,.slice Q f.b.length S] 36)) W:=by rw[<-hW];exact(yO _).alloc _
 have B0:Hid (∀w',Gr W w'->w'.cell? ⟨w.heap.size,0,none⟩=some (.slice Z f.p.length cp)/\w'.cell? ⟨w.heap.size,1,none⟩=some (.int .i64 f.ret)/\w'.cell? ⟨w.heap.size,2,none⟩=some (.slice R f.s.length cs)/\w'.cell? ⟨w.heap.size,3,none⟩=some (.slice Q f.b.length S)) :=
  fun w' q=>⟨(q.cell _ _ (by omega)).trans (df _ _ 0 g0 rfl),(q.cell _ _ (by omega)).trans (df _ _ 1 g0 rfl),(q.cell _ _ (by omega)).trans (df _ _ 2 g0 rfl),(q.cell _ _ (by omega)).trans (df _ _ 3 g0 rfl)⟩
 have aJ:W.heap[w.heap.size+1]?=some (.cells #[.int .i64 0] 44 (0,0)):=by rw[<-hW];exact heap_alloc2_new w _ _
 have R0:Hid (∀w',Gr W w'->w'.heap[w.heap.size+1]?=some (.cells #[.int .i64 0] 44 (0,0))):=fun w' q=>(q.heap _ (by omega)).trans aJ;have aN:Hid (∀y,Calls prog 62 #[.agg #[.slice Z f.p.length cp,.int .i64 f.ret,.slice R f.s.length cs,.slice Q f.b.length S]] y fun e w'=>e=.returned (.func (.func 92) #[] #[.pointer (some ⟨y.heap.size,0,none⟩)])/\w'=y.alloc (.cells #[.slice Z f.p.length cp,.int .i64 f.ret,.slice R f.s.length cs,.slice Q f.b.length S] 36)):=fun y=>kY f Z R Q _ _ _ cp cs S y;refine(callsIn_wide (n:=5)).1 ?_;refine callsIn_of_wp_marks func42 rfl trivial ?_ rfl;simp only[ntmps42,List.size_toArray,List.length_cons,List.length_nil,Nat.reduceAdd,Nat.reduceSub,Array.replicate_succ,Array.replicate_zero,List.push_toArray,List.append_toArray,List.nil_append,List.cons_append];refine wpIn_wide.2 ?_;obtain⟨k0,k1,k2,k3⟩:=B0.out W (yO _);have rc:=cell_of_one aJ;have rf:=free_of_one aJ;have bs:=F.size;clear g0;by_cases z:3<f.p.length\/2<f.s.length\/f.b.length<1\/10<f.b.length
 ·have HV:Hid (zL f=3):=by show _=_;unfold zL;rw[yr z]
  have HF:Hid (∀w',(W.setCell ⟨w.heap.size+1,0,none⟩ (.int .i64 3))=w'->w'.cell? ⟨w.heap.size+1,0,none⟩=some (.int .i64 3)/\Gr w w'):=by rintro w' rfl;exact⟨World.cell?_setCell_same' _ _ _ (by rw[rc];rfl),F.setCell (by show w.heap.size<=w.heap.size+1;omega) _⟩
  rcases yw 3 f.p.length with a1|a1
  ·have b1:(3:Int)<f.p.length:=by omega
   clear z;go_wp2;refine qe rfl (dY _ _ 2 _ _ 3 rfl rfl (HF.out _ rfl).1) ⟨dg (by rw[HV.out]),(HF.out _ rfl).2⟩
  have b1:(f.p.length:Int)<=3:=by omega
  rcases yw 2 f.s.length with a2|a2
  ·have b2:(2:Int)<f.s.length:=by omega
   clear z;go_wp2;refine qe rfl (dY _ _ 2 _ _ 3 rfl rfl (HF.out _ rfl).1) ⟨dg (by rw[HV.out]),(HF.out _ rfl).2⟩
  have b2:(f.s.length:Int)<=2:=by omega
  rcases yw f.b.length 1 with a3|a3
  ·have b3:(f.b.length:Int)<1:=by omega
   clear z;go_wp2;refine qe rfl (dY _ _ 2 _ _ 3 rfl rfl (HF.out _ rfl).1) ⟨dg (by rw[HV.out]),(HF.out _ rfl).2⟩
  have b3:(1:Int)<=f.b.length:=by omega
  have b4:(10:Int)<f.b.length:=by omega
  clear z;go_wp2;refine qe rfl (dY _ _ 2 _ _ 3 rfl rfl (HF.out _ rfl).1) ⟨dg (by rw[HV.out]),(HF.out _ rfl).2⟩
 have b1:(f.p.length:Int)<=3:=by omega
 have b2:(f.s.length:Int)<=2:=by omega
 have b3:(1:Int)<=f.b.length:=by omega
 have b4:(f.b.length:Int)<=10:=by omega
 by_cases ht:40<AX f.b
 ·have HV:Hid (zL f=3):=by show _=_;unfold zL;rw[yt z,yr ht]
  have bb:(40:Int)<AX f.b:=by omega
  clear z ht;go_wp2_with (go_at_call 60;refine(aC.out _ F).mono ?_;rintro e y ⟨rfl,g1⟩;have al:=R0.out _ g1;have aM:=cell_of_one al;have bd:=free_of_one al);refine qe rfl (dY _ _ 2 _ _ 3 rfl rfl (World.cell?_setCell_same' _ _ _ (by rw[aM];rfl))) ⟨dg (by rw[HV.out]),(F.trans g1).setCell (by show w.heap.size<=w.heap.size+1;omega) _⟩
 have HV:=dJ (jC z ht);have bb:(AX f.b:Int)<=40:=by omega
 have aT:(zW f).length<=1000000:=by rw[lK];omega
 have HB:Hid (1<=f.b.length/\f.b.length<=10):=⟨by omega,by omega⟩;clear z ht;obtain⟨hd,aG⟩:=xJ (GF f);have aO:=dJ aG;rw[aG]at az HV;clear aG
 cases hd with
 | false =>
  go_wp2_with (first|(go_at_call 60;refine(aC.out _ F).mono ?_;rintro e y ⟨rfl,g1⟩;obtain⟨l0,l1,l2,l3⟩:=B0.out _ g1)|(go_at_call 61;refine(az.out _ (F.trans g1)).mono ?_;rintro e w2 ⟨rfl,g2⟩;have al:=R0.out _ (g1.trans g2);have aM:=cell_of_one al;have bd:=free_of_one al));refine qe rfl (dY _ _ 2 _ _ 1 rfl rfl (World.cell?_setCell_same' _ _ _ (by rw[aM];rfl))) ⟨dg (by rw[HV.out];rfl),(F.trans (g1.trans g2)).setCell (by show w.heap.size<=w.heap.size+1;omega) _⟩
 | true =>
  have ay:0<=f.ret:=by have:=aO.out;unfold GF at this;simp only[yu,decide_eq_true_eq]at this;exact this.1.1.2
  have a4:Hid (∀it∈zW f,DL f it.ins=zm f it.ins):=by intro it hm;obtain⟨l,e1,e2⟩:=gJ f it hm;have:=hfl.out l (xT e1) _ (xT e2);exact mT f it.ins ay this.1 this.2
  have a5:Hid (∀it∈zW f,WfI it.ins):=by intro it hm;obtain⟨l,e1,e2⟩:=gJ f it hm;exact hwf.out l (xT e1) _ (xT e2)
  clear ay;go_wp2_with (first|(go_at_call 60;refine(aC.out _ F).mono ?_;rintro e y ⟨rfl,g1⟩;obtain⟨l0,l1,l2,l3⟩:=B0.out _ g1)|(go_at_call 61;refine(az.out _ (F.trans g1)).mono ?_;rintro e w2 ⟨rfl,g2⟩;obtain⟨m0,m1,m2,m3⟩:=B0.out _ (g1.trans g2))|(go_at_call 62;refine(aN.out _).mono ?_;rintro e w3 ⟨rfl,rfl⟩));have aS:Gr W w2:=g1.trans g2;obtain⟨W0,an⟩:=xJ (w2.alloc (.cells #[.slice Z f.p.length cp,.int .i64 f.ret,.slice R f.s.length cs,.slice Q f.b.length S] 36));have m:Gr W W0:=by rw[<-an];exact aS.alloc _
  have T:Gr w W0:=F.trans m;have bp:W0.heap.size<=w2.heap.size+1/\w2.heap.size+1<=W0.heap.size:=by rw[<-an];simp
  have av:∀o,W0.cell? ⟨w2.heap.size,o,none⟩=(#[.slice Z f.p.length cp,.int .i64 f.ret,.slice R f.s.length cs,.slice Q f.b.length S]:Array Value)[o]?:=by intro o;rw[<-an];exact yo _ _ _ _ _ _ (heap_alloc_new w2 _)
  have bq:=T.size;rw[an];clear l0 l1 l2 l3 m0 m1 m2 m3 k0 k1 k2 k3 rc rf
  refine gO (w:=w) (f:=f) (q:=3) (Bf:=w2.heap.size) rfl ah T hs (by omega) (av 0) (av 3) (fun B C=>(∀it∈B,it∈zW f/\zm f it.ins=true)/\Gr W0 C)
   (fun c B C=>c=.ret/\(∃it∈B,zm f it.ins=false)/\Below w.heap.size w C/\C.heap[w.heap.size+1]?=some (.cells #[.int .i64 1] 44 (0,0)))
   (OwnFrom.and (ownFrom_pure _ _) (fP W0)) (fun c=>OwnFrom.and (ownFrom_pure _ _) (OwnFrom.and (ownFrom_pure _ _) (OwnFrom.and (ownFrom_below (yJ _) (by omega)) (eY _ _ _)))) (fun B C h=>h.2.size) ⟨fun it h=>by simp at h,yO _⟩ ?hassign ?hbody ?hdone ?hstop
  case hassign =>
   intro l it aa ta ca ct C K J;simp only[yF,List.set_cons_succ,List.set_cons_zero,mK,rV]at J ⊢;gi_wp2;exact J
  case hbody =>
   rintro l B it aa ta ca ct C Bx ⟨N,r⟩ aW aX I aI a6 U;simp only[yF,List.set_cons_succ,List.set_cons_zero,mK];have hX:∀o,C.cell? ⟨Bx,o,none⟩=(rV it aa ta ca ct)[o]?:=fun o=>yo _ _ _ _ _ _ U;have x0:C.cell? ⟨Bx,0,none⟩=some (.int .i64 it.ins.op):=hX 0;have x1:C.cell? ⟨Bx,1,none⟩=some (.int .i64 it.ins.w):=hX 1;have x2:C.cell? ⟨Bx,2,none⟩=some (.int .i64 it.ins.g):=hX 2;have x3:C.cell? ⟨Bx,3,none⟩=some (.slice aa it.ins.args.length ca):=hX 3;have x4:C.cell? ⟨Bx,4,none⟩=some (.int .u32 it.ins.i):=hX 4;have x5:C.cell? ⟨Bx,5,none⟩=some (.slice ta it.ins.to.length ct):=hX 5;have ao:=a5.out it I
   have HC:Hid (Calls prog 63 #[.agg #[.slice Z f.p.length cp,.int .i64 f.ret,.slice R f.s.length cs,.slice Q f.b.length S],.agg #[.int .i64 it.ins.op,.int .i64 it.ins.w,.int .i64 it.ins.g,.slice aa it.ins.args.length ca,.int .u32 it.ins.i,.slice ta it.ins.to.length ct]] C (RG (.bool (zm f it.ins)) C)):=by rw[<-a4.out it I];exact lI f it.ins _ R aa ta Q cs ca ct S C ⟨ao.1.1,ao.1.2,a9,by have:=ao.2.2.2;omega⟩ (aX.gr (T.trans r))
   obtain⟨m0,m1,m2,m3⟩:=B0.out _ (m.trans r);have HM:Hid (it∈zW f):=I;have a8:=r.size;obtain⟨ag,ab⟩:=xJ (zm f it.ins);have ae:=dJ ab;rw[ab]at HC;clear hX I aI U ab ao
   cases ag with
   | false =>
    gi_wp2_with (refine⟨trivial,?_⟩;gi_at_call 63;refine(CallsIn.inRound l (callsIn_wide.2 HC.out)).mono ?_;rintro e w5 ⟨rfl,L⟩;have d:=R0.out _ (m.trans (r.trans L));have ap:=cell_of_one d;have aq:=free_of_one d);refine⟨(L.keeps.trans (KeepsOthers.setCell _ _ _)).from _,rfl,⟨it,by simp,ae.out⟩,?_,?_⟩
    ·exact Below.setCell (T.trans (r.trans L)) (p:=⟨w.heap.size+1,0,none⟩) (by show w.heap.size<=w.heap.size+1;omega) _
    ·exact cX (i:=0) (.int .i64 1) d
   | true =>
    gi_wp2_with (refine⟨trivial,?_⟩;gi_at_call 63;refine(CallsIn.inRound l (callsIn_wide.2 HC.out)).mono ?_;rintro e w5 ⟨rfl,L⟩);refine⟨L.keeps.from _,Below.mono L (by omega),?_,r.trans L⟩;intro aL aH;rcases yz.1 aH with h|h
    ·exact N aL h
    ·simp at h;subst h;exact⟨HM.out,ae.out⟩
  case hstop =>
   rintro D c B C hD ak ⟨rfl,⟨it,hm,aj⟩,hB,aF⟩ J
   have HF:Hid (f.b.all (fun l=>l.all (zm f))=false):=by show _=_;rw[<-gI];exact List.all_eq_false.2 ⟨it,ak.subset hm,by simp[aj]⟩
   have HK:=dJ J;clear J hm aj;go_wp2;refine wG (w0:=w) (Br:=w.heap.size+1) (b:=1) (t:=2) rfl HK.out rfl rfl aF hB (by omega) ?_;exact fun w' g=>⟨dg (by rw[HV.out,HF.out];rfl),g⟩
  case hdone =>
   rintro D C hD ⟨N,r⟩ J
   have ar:Hid (f.b.all (fun l=>l.all (zm f))=true):=by show _=_;rw[<-gI];exact ym.2 fun it h=>(N it h).2
   have HA:Hid (∀l∈f.b,∀x∈l,zm f x=true):=nH ar.out;have ad:Hid (zL f=if C7 f=false then 7 else if f.b.all (fun l=>l.all (Aj f))=false then 6 else if BU f=false then 9 else 0):=by show _=_;rw[HV.out,ar.out];rfl
   have aB:Hid (∀y,Gr w y->Calls prog 64 #[.agg #[.slice Z f.p.length cp,.int .i64 f.ret,.slice R f.s.length cs,.slice Q f.b.length S]] y (RG (.bool (C7 f)) y)):=by rw[<-rp];exact fun y q=>pb _ f y (ah.gr q) HB.out.1 HB.out.2 HA
   have am:Hid (∀w',Gr C w'->w'.heap[D]?=some (.deferred (some []))):=fun w' q=>(q.heap D (xY.1 J).1).trans J;have bg:D<C.heap.size:=(xY.1 J).1;obtain⟨m0,m1,m2,m3⟩:=B0.out _ (m.trans r);have ac:Gr w C:=T.trans r;obtain⟨ru,aK⟩:=xJ (C7 f);have aQ:=dJ aK;rw[aK]at ad aB;clear N J aK
   cases ru with
   | false =>
    go_wp2_with (go_at_call 64;refine(aB.out _ ac).mono ?_;rintro e w5 ⟨rfl,L⟩;have d:=R0.out _ (m.trans (r.trans L));have ap:=cell_of_one d;have aq:=free_of_one d);refine wG (w0:=w) (Br:=w.heap.size+1) (b:=7) (t:=2) rfl ((KeepsOthers.setCell _ _ _).same D _ (am.out _ L) rfl) rfl rfl (cX (i:=0) (.int .i64 7) d) (Below.setCell (ac.trans L) (p:=⟨w.heap.size+1,0,none⟩) (by show w.heap.size<=w.heap.size+1;omega) _) (by omega) ?_;exact fun w' g=>⟨dg (by rw[ad.out];rfl),g⟩
   | true =>
    have bk:Hid (∀l∈f.b,l≠[]):=od aQ.out
    have HL:Hid (f.b.all Ref.laid=true):=by have:=aQ.out;unfold C7 at this;simp only[yu]at this;exact this.1.1
    have aZ:Hid (∀y,Gr w y->Calls prog 65 #[.agg #[.slice Z f.p.length cp,.int .i64 f.ret,.slice R f.s.length cs,.slice Q f.b.length S]] y fun e w'=>∃A c,e=.returned (.slice A (Ec f).length c)/\Hid (IntsAt w'.heap.size w' (.slice A (Ec f).length c) (Ec f))/\Gr y w'):=by intro y q;refine(rq _ f y (ah.gr q) hs aT (by omega)).mono ?_;rintro e w' ⟨u,q1,q2,q3⟩;have bc:=q2;obtain⟨A,c,rfl,-,-,-⟩:=q2;exact⟨A,c,q1,bc,q3⟩
    go_wp2_with (first|(go_at_call 64;refine(aB.out _ ac).mono ?_;rintro e w5 ⟨rfl,L⟩;obtain⟨n0,n1,n2,n3⟩:=B0.out _ (m.trans (r.trans L)))|(go_at_call 65;refine(aZ.out _ (ac.trans L)).mono ?_;rintro e w6 ⟨A6,c6,rfl,aY,g6⟩;have p0:∀o,(w6.alloc o).cell? ⟨w.heap.size,0,none⟩=some (.slice Z f.p.length cp):=fun o=>(B0.out _ (m.trans (r.trans (L.trans (g6.alloc o))))).1;have p1:∀o,(w6.alloc o).cell? ⟨w.heap.size,1,none⟩=some (.int .i64 f.ret):=fun o=>(B0.out _ (m.trans (r.trans (L.trans (g6.alloc o))))).2.1;have p2:∀o,(w6.alloc o).cell? ⟨w.heap.size,2,none⟩=some (.slice R f.s.length cs):=fun o=>(B0.out _ (m.trans (r.trans (L.trans (g6.alloc o))))).2.2.1;have p3:∀o,(w6.alloc o).cell? ⟨w.heap.size,3,none⟩=some (.slice Q f.b.length S):=fun o=>(B0.out _ (m.trans (r.trans (L.trans (g6.alloc o))))).2.2.2)|(go_at_call 62;refine(aN.out _).mono ?_;rintro e w7 ⟨rfl,rfl⟩))
    have ax:Gr C w6:=L.trans g6;obtain⟨W1,af⟩:=xJ ((w6.alloc (.cells #[.slice A6 (Ec f).length c6] 33)).alloc (.cells #[.slice Z f.p.length cp,.int .i64 f.ret,.slice R f.s.length cs,.slice Q f.b.length S] 36));have ai:Gr w6 W1:=by rw[<-af];exact((yO _).alloc _).alloc _
    have G:Gr W W1:=m.trans (r.trans (ax.trans ai));have H:Gr w W1:=F.trans G;have M:Gr C W1:=ax.trans ai;have be:W1.heap.size<=w6.heap.size+2/\w6.heap.size+2<=W1.heap.size:=by rw[<-af];simp
    have aw:∀o,W1.cell? ⟨w6.heap.size+1,o,none⟩=(#[.slice Z f.p.length cp,.int .i64 f.ret,.slice R f.s.length cs,.slice Q f.b.length S]:Array Value)[o]?:=by intro o;rw[<-af];exact yo _ _ _ _ _ _ (heap_alloc2_new w6 _ _)
    have aU:W1.heap[w6.heap.size]?=some (.cells #[.slice A6 (Ec f).length c6] 33 (0,0)):=by rw[<-af];exact heap_alloc2_old w6 _ _
    have KB:Hid (∀w',Gr W1 w'->w'.heap[w6.heap.size]?=some (.cells #[.slice A6 (Ec f).length c6] 33 (0,0))):=fun w' q=>(q.heap _ (by omega)).trans aU;have a0:Hid (∀w',Gr W1 w'->IntsAt w'.heap.size w' (.slice A6 (Ec f).length c6) (Ec f)):=fun w' q=>aY.out.gr (ai.trans q);have br:=H.size;have bf:=M.size;rw[af];clear n0 n1 n2 n3 m0 m1 m2 m3 p0 p1 p2 p3 aU
    refine gO (w:=w) (f:=f) (q:=5) (Bf:=w6.heap.size+1) rfl ah H hs (by omega) (aw 0) (aw 3) (fun B E=>(∀it∈B,Aj f it.ins=true)/\Gr W1 E)
     (fun c B E=>c=.ret/\(∃it∈B,Aj f it.ins=false)/\Below w.heap.size w E/\E.heap[w.heap.size+1]?=some (.cells #[.int .i64 6] 44 (0,0))/\E.heap[D]?=some (.deferred (some [])))
     (OwnFrom.and (ownFrom_pure _ _) (fP W1)) (fun c=>OwnFrom.and (ownFrom_pure _ _) (OwnFrom.and (ownFrom_pure _ _) (OwnFrom.and (ownFrom_below (yJ _) (by omega)) (OwnFrom.and (eY _ _ _) ?hD)))) (fun B E h=>h.2.size) ⟨fun it h=>by simp at h,yO _⟩ ?hassign2 ?hbody2 ?hdone2 ?hstop2
    case hD =>
     intro s X Y row h hg hr;refine(hg.block D (xY.1 h).1 (fun e=>?_)).trans h;have:=(hr D e.symm).1;omega
    case hassign2 =>
     intro l it aa ta ca ct E K J;simp only[yF,List.set_cons_succ,List.set_cons_zero,mK,rV]at J ⊢;gi_wp2;exact J
    case hbody2 =>
     rintro l B it aa ta ca ct E Bx ⟨N,j⟩ aW aX I aI a6 U;simp only[yF,List.set_cons_succ,List.set_cons_zero,mK];have hX:∀o,E.cell? ⟨Bx,o,none⟩=(rV it aa ta ca ct)[o]?:=fun o=>yo _ _ _ _ _ _ U;have x0:E.cell? ⟨Bx,0,none⟩=some (.int .i64 it.ins.op):=hX 0;have x1:E.cell? ⟨Bx,1,none⟩=some (.int .i64 it.ins.w):=hX 1;have x2:E.cell? ⟨Bx,2,none⟩=some (.int .i64 it.ins.g):=hX 2;have x3:E.cell? ⟨Bx,3,none⟩=some (.slice aa it.ins.args.length ca):=hX 3;have x4:E.cell? ⟨Bx,4,none⟩=some (.int .u32 it.ins.i):=hX 4;have x5:E.cell? ⟨Bx,5,none⟩=some (.slice ta it.ins.to.length ct):=hX 5;obtain⟨lb,e1,e2⟩:=gJ f it I;have aE:=HA.out lb (xT e1) it.ins (xT e2)
     have HC:Hid (Calls prog 66 #[.agg #[.slice Z f.p.length cp,.int .i64 f.ret,.slice R f.s.length cs,.slice Q f.b.length S],.agg #[.int .i64 it.ins.op,.int .i64 it.ins.w,.int .i64 it.ins.g,.slice aa it.ins.args.length ca,.int .u32 it.ins.i,.slice ta it.ins.to.length ct],.slice A6 (Ec f).length c6] E (RG (.bool (Aj f it.ins)) E)):=by rw[<-uv f it.ins aE];exact pf f it.ins (Ec f) _ _ _ aa ta A6 ca ct c6 E (aW.gr (H.trans j)) (a0.out _ j) (tj aE)
     obtain⟨m0,m1,m2,m3⟩:=B0.out _ (G.trans j);have kb:=cell_of_one (KB.out _ j);have a8:=j.size;obtain⟨ag,ab⟩:=xJ (Aj f it.ins);have ae:=dJ ab;rw[ab]at HC;clear hX I aI U ab aE e1 e2
     cases ag with
     | false =>
      gi_wp2_with (refine⟨trivial,?_⟩;gi_at_call 66;refine(CallsIn.inRound l (callsIn_wide.2 HC.out)).mono ?_;rintro e w9 ⟨rfl,O⟩;have d:=R0.out _ (G.trans (j.trans O));have ap:=cell_of_one d;have aq:=free_of_one d);refine⟨(O.keeps.trans (KeepsOthers.setCell _ _ _)).from _,rfl,⟨it,by simp,ae.out⟩,?_,?_,?_⟩
      ·exact Below.setCell (H.trans (j.trans O)) (p:=⟨w.heap.size+1,0,none⟩) (by show w.heap.size<=w.heap.size+1;omega) _
      ·exact cX (i:=0) (.int .i64 6) d
      ·exact(KeepsOthers.setCell _ _ _).same D _ (am.out _ (M.trans (j.trans O))) rfl
     | true =>
      gi_wp2_with (refine⟨trivial,?_⟩;gi_at_call 66;refine(CallsIn.inRound l (callsIn_wide.2 HC.out)).mono ?_;rintro e w9 ⟨rfl,O⟩);refine⟨O.keeps.from _,Below.mono O (by omega),?_,j.trans O⟩;intro aL aH;rcases yz.1 aH with h|h
      ·exact N aL h
      ·simp at h;subst h;exact ae.out
    case hstop2 =>
     rintro D2 c B E a7 ak ⟨rfl,⟨it,hm,aj⟩,hB,aF,aR⟩ J
     have HF:Hid (f.b.all (fun l=>l.all (Aj f))=false):=by show _=_;rw[<-gI];exact List.all_eq_false.2 ⟨it,ak.subset hm,by simp[aj]⟩
     have HK:=dJ J;have aP:=dJ aR;clear J hm aj aR;go_wp2;refine vT (w0:=w) (Br:=w.heap.size+1) (b:=6) (t:=2) rfl HK.out aP.out (by omega) rfl rfl aF hB (by omega) (by omega) ?_;exact fun w' g=>⟨dg (by rw[ad.out,HF.out];rfl),g⟩
    case hdone2 =>
     rintro D2 E a7 ⟨N,j⟩ J
     have aD:Hid (f.b.all (fun l=>l.all (Aj f))=true):=by show _=_;rw[<-gI];exact ym.2 N
     have HT:Hid (∀l∈f.b,∀x∈l,Aj f x=true):=fun l hl x hx=>ym.1 (ym.1 aD.out l hl) x hx
     have aA:Hid (Calls prog 67 #[.agg #[.slice Z f.p.length cp,.int .i64 f.ret,.slice R f.s.length cs,.slice Q f.b.length S]] E (RG (.bool (BU f)) E)):=by rw[<-sE];exact kE _ f E (ah.gr (H.trans j)) HB.out.1 HB.out.2 aT (by omega) hln HA HL HT
     have bn:=R0.out _ (G.trans j);obtain⟨m0,m1,m2,m3⟩:=B0.out _ (G.trans j);have au:Hid (∀w',Gr E w'->w'.heap[D2]?=some (.deferred (some []))):=fun w' q=>(q.heap D2 (xY.1 J).1).trans J;obtain⟨st,aV⟩:=xJ (BU f);rw[aV]at aA ad;clear N J aV;cases st
     ·go_wp2_with (go_at_call 67;refine aA.out.mono ?_;rintro e w9 ⟨rfl,O⟩;have d:=R0.out _ (G.trans (j.trans O));have ap:=cell_of_one d;have aq:=free_of_one d);refine vT (w0:=w) (Br:=w.heap.size+1) (b:=9) (t:=2) rfl ((KeepsOthers.setCell _ _ _).same D2 _ (au.out _ O) rfl) ((KeepsOthers.setCell _ _ _).same D _ (am.out _ (M.trans (j.trans O))) rfl) (by omega) rfl rfl (cX (i:=0) (.int .i64 9) d) (Below.setCell (H.trans (j.trans O)) (p:=⟨w.heap.size+1,0,none⟩) (by show w.heap.size<=w.heap.size+1;omega) _) (by omega) (by omega) ?_;exact fun w' g=>⟨dg (by rw[ad.out,aD.out];rfl),g⟩
     ·go_wp2_with (go_at_call 67;refine aA.out.mono ?_;rintro e w9 ⟨rfl,O⟩;have d:=R0.out _ (G.trans (j.trans O));have ap:=cell_of_one d;have aq:=free_of_one d);refine vT (w0:=w) (Br:=w.heap.size+1) (b:=0) (t:=2) rfl ((KeepsOthers.setCell _ _ _).same D2 _ (au.out _ O) rfl) ((KeepsOthers.setCell _ _ _).same D _ (am.out _ (M.trans (j.trans O))) rfl) (by omega) rfl rfl (cX (i:=0) (.int .i64 0) d) (Below.setCell (H.trans (j.trans O)) (p:=⟨w.heap.size+1,0,none⟩) (by show w.heap.size<=w.heap.size+1;omega) _) (by omega) (by omega) ?_;exact fun w' g=>⟨dg (by rw[ad.out,aD.out];rfl),g⟩
structure gT (f:Fn):Prop where
 b:f.b.length<=100000
 block:∀l∈f.b,l.length<=100000
 wf:∀l∈f.b,∀x∈l,WfI x
 g:∀l∈f.b,∀x∈l,-9223372036854775808<=x.g/\x.g<=9223372036854775807
theorem gK (v:Value)(f:Fn)(w:World)(hf:FnAt w.heap.size w v f)(hn:gT f):Calls prog 42 #[v] w (RG (.int .i64 (zL f)) w) :=
 tL v f w hf hn.b hn.block hn.wf hn.g
theorem jm (v:Value)(f:Fn)(w:World)(hf:FnAt w.heap.size w v f)(hn:gT f):Calls prog 44 #[v] w (RG (.int .i64 (zL f)) w) :=
 uj v f w hf hn.b hn.block hn.wf
end
