/- Parts. -/
import Derived.Test.YthfjdhanbegaoaaGreatDoorT11
import Derived.Maps.OwnIn
set_option linter.unusedSimpArgs false
set_option linter.unusedVariables false
set_option maxRecDepth 100000
set_option maxHeartbeats 16000000
open Go.Proofs.Tryz
namespace Go.Proofs.YthfjdhanbegaoaaGreatDoor
open Go.RowKit Go.Shelf
attribute [local go_sem] Oper.semAt_some
theorem pW {β γ:Type}{B:Nat}{I:γ->β->World->Prop}(h:∀c,OwnFrom B (I c)):OwnFrom B (fun s W=>∃c,I c s W) :=
 fun s X Y row ⟨c,d⟩ g j=>⟨c,h c s X Y row d g j⟩
theorem fX {β:Type}(B b:Nat)(e:TypeId)(v:Value)(xs:β->List Value):OwnFrom B (fun s W=>Own1 b e W v (xs s)):=by
 intro s X Y row h r t;refine World.ownsRow.kept h r ?_;rcases h.2 with ⟨rfl,_⟩|⟨g,l,m,rfl,_,d,_⟩
 ·exact .inl rfl
 ·refine .inr fun p=>?_;obtain⟨-,o,j,q⟩:=t g (by simpa[Value.ownBlock] using p.symm);rw[d]at j;cases j;cases q
theorem eA {β:Type}{B:Nat}(Bx:Nat)(c:Array Value)(t:TypeId):OwnFrom B (fun(_:β) W=>W.heap[Bx]?=some (.cells c t (0,0))):=by intro s X Y row h j l;refine(j.block Bx (pf.1 h).1 (fun e=>?_)).trans h;obtain⟨-,o,d,g⟩:=l Bx e.symm;rw[h]at d;cases d;cases g
theorem Own1.keep {B:Nat}{e:TypeId}{W W':World}{v:Value}{xs:List Value}(h:Own1 B e W v xs)(hk:∀k,v.ownBlock=some k->W'.heap[k]?=W.heap[k]?):Own1 B e W' v xs:=by
 refine⟨h.1,?_⟩;rcases h.2 with h|⟨g,d,j,rfl,l,m,r⟩
 ·exact .inl h
 ·exact .inr ⟨g,d,j,rfl,l,(hk g rfl).trans m,r⟩
theorem Own1.typed {B:Nat}{e:TypeId}{W:World}{v:Value}{xs:List Value}(h:Own1 B e W v xs){k:Nat}(hk:v.ownBlock=some k):B<=k/\k<W.heap.size/\∃cur,W.heap[k]?=some (.cells cur e (0,0)):=by
 rcases h.2 with ⟨rfl,_⟩|⟨g,j,cur,rfl,l,d,_⟩
 ·simp[Value.ownBlock]at hk
 ·simp[Value.ownBlock]at hk;subst hk;exact⟨l,(pf.1 d).1,cur,d⟩
theorem Own1.not_box {B:Nat}{e T:TypeId}{W:World}{v:Value}{xs:List Value}{Bh:Nat}{row:Array Value}{fr:Nat × Nat}(h:Own1 B e W v xs)(hb:W.heap[Bh]?=some (.cells row T fr))(hT:T≠e):v.ownBlock≠some Bh:=by intro j;obtain⟨-,-,g,d⟩:=h.typed j;rw[hb]at d;cases d;exact hT rfl
def Frm (Bh:Nat)(W W':World):Prop:=W.heap.size<=W'.heap.size/\∀k,k<W.heap.size->k≠Bh->W'.heap[k]?=W.heap[k]?
theorem Frm.refl (Bh:Nat)(W:World):Frm Bh W W:=⟨pS _,fun _ _ _=>rfl⟩
theorem Frm.alloc {Bh:Nat}{W W':World}(h:Frm Bh W W')(o:Obj):Frm Bh W (W'.alloc o) :=
 ⟨by have:=h.1;simp;omega,fun k g d=>((qj W').alloc o).heap k (by have:=h.1;omega) |>.trans (h.2 k g d)⟩
theorem lF {β:Type}(Bh:Nat)(W0:World):OwnFrom W0.heap.size (fun(_:β) W=>Frm Bh W0 W) :=
 fun _ X Y row d g j=>⟨Nat.le_trans d.1 g.size,fun k hk hne=>(g.block k (by have:=d.1;omega) (fun e=>by have:=(j k e.symm).1;omega)).trans (d.2 k hk hne)⟩
theorem ke {B Bh Br:Nat}{e1 e2 T:TypeId}{W W':World}{row row':Array Value}{fr fr':Nat × Nat}{u:Value}{us:List Value}{t:List (List Int)}(hb:W.heap[Bh]?=some (.cells row T fr))(hr:W.heap[Br]?=some (.cells row' T fr'))(h1:T≠e1)(h2:T≠e2)
  (hu:Own1 B e1 W u us) (ht:Tab1 B e2 W us t) (hW:∀k,k<W.heap.size->k≠Bh->k≠Br->W'.heap[k]?=W.heap[k]?) (hn:t.length<=17592186044416):TabAt W'.heap.size W' u t:=by
 have p:Own1 B e1 W' u us:=hu.keep fun k d=>hW k (hu.typed d).2.1 (fun e=>hu.not_box hb h1 (e ▸ d)) (fun e=>hu.not_box hr h1 (e ▸ d))
 have m:Tab1 B e2 W' us t:=⟨ht.1,fun j l hl=>by
   obtain⟨y,q,g,r⟩:=ht.2 j l hl
   exact⟨y,q,g.keep fun k d=>hW k (g.typed d).2.1 (fun e=>g.not_box hb h2 (e ▸ d)) (fun e=>g.not_box hr h2 (e ▸ d)),r⟩⟩
 exact m.tab p hn
def Apart (u v:Value):Prop:=∀k,u.ownBlock=some k->v.ownBlock≠some k
theorem Apart.symm {u v:Value}(h:Apart u v):Apart v u:=fun k d e=>h k e d
theorem de {W:World}{B i:Nat}{row:Array Value}{T:TypeId}{fr:Nat × Nat}(v:Value)(h:W.heap[B]?=some (.cells row T fr)):(W.setCell ⟨B,i,none⟩ v).heap[B]?=some (.cells (row.setIfInBounds i v) T fr):=by obtain⟨d,g⟩:=pf.1 h;show (W.heap.modify B _)[B]?=_;rw[Array.getElem?_eq_getElem (by rw[Array.size_modify];exact d),Array.getElem_modify_self,g];rfl
theorem ed {W w1:World}{n₀ Bh i:Nat}{T e:TypeId}{row:Array Value}{v v':Value}{xs ys:List Value}{tmp:Obj}(hb:W.heap[Bh]?=some (.cells row T (0,0)))(hT:T≠e)(hrow:Own1 n₀ e W v xs)
  (hown':Own1 n₀ e w1 v' ys) (hgrow:(W.alloc tmp).grownBy w1 v.ownBlock) (hat:v'.ownBlock=v.ownBlock\/v'.ownBlock=some (W.alloc tmp).heap.size) :
  w1.heap[Bh]?=some (.cells row T (0,0))/\(w1.setCell ⟨Bh,i,none⟩ v').heap[Bh]?=some (.cells (row.setIfInBounds i v') T (0,0))/\Own1 n₀ e (w1.setCell ⟨Bh,i,none⟩ v') v' ys/\KeepsOthers W (w1.setCell ⟨Bh,i,none⟩ v') /\
   (∀W0:World,Frm Bh W0 W->W0.heap.size<=n₀->Frm Bh W0 (w1.setCell ⟨Bh,i,none⟩ v'))/\(∀(u:Value)(zs:List Value),Own1 n₀ e W u zs->Apart v u->Own1 n₀ e (w1.setCell ⟨Bh,i,none⟩ v') u zs/\Apart v' u)/\(∀B,B<=n₀->B<=Bh->B<=W.heap.size->Below B W (w1.setCell ⟨Bh,i,none⟩ v'))/\(∀(k:Nat)(c:Array Value)(t:TypeId),W.heap[k]?=some (.cells c t (0,0))->t≠e->k≠Bh->(w1.setCell ⟨Bh,i,none⟩ v').heap[k]?=some (.cells c t (0,0))):=by
 have F:Bh<W.heap.size:=(pf.1 hb).1;have z:∀k,k<W.heap.size->some k≠v.ownBlock->w1.heap[k]?=W.heap[k]?:=fun k d l=>(hgrow.block k (by simp;omega) l).trans (((qj W).alloc tmp).heap k d);have q:w1.heap[Bh]?=some (.cells row T (0,0)):=(z Bh F (fun g=>hrow.not_box hb hT g.symm)).trans hb;have y:v'.ownBlock≠some Bh:=hown'.not_box q hT;have m:∀k,k≠Bh->(w1.setCell ⟨Bh,i,none⟩ v').heap[k]?=w1.heap[k]?:=fun k d=>Below.heap_setCell w1 ⟨Bh,i,none⟩ v' k d
 have G:W.heap.size<=(w1.setCell ⟨Bh,i,none⟩ v').heap.size:=by have D:=hgrow.size;have I:=(KeepsWalks.setCell w1 ⟨Bh,i,none⟩ v').size;simp at D;omega
 refine⟨q,de v' q,hown'.keep fun k d=>m k (fun g=>y (g ▸ d)),?_,?_,?_,?_,?_⟩
 ·refine((KeepsOthers.alloc W tmp).trans (KeepsOthers.of_grownBy hgrow fun j o C J=>?_)).trans (KeepsOthers.setCell _ _ _);obtain⟨-,-,K,M⟩:=(hrow.alloc tmp).typed C;rw[M]at J;cases J;rfl
 ·intro W0 E O;refine⟨Nat.le_trans E.1 G,fun k d l=>?_⟩;rw[m k l,z k (by have:=E.1;omega) (fun g=>by have:=(hrow.typed g.symm).1;omega)];exact E.2 k d l
 ·intro u zs A r
  have H:∀k,u.ownBlock=some k->(w1.setCell ⟨Bh,i,none⟩ v').heap[k]?=W.heap[k]?:=fun k d=>by rw[m k (fun g=>A.not_box hb hT (g ▸ d))];exact z k (A.typed d).2.1 (fun g=>r k g.symm d)
  refine⟨A.keep H,fun k d g=>?_⟩;rcases hat with h|h
  ·exact r k (h ▸ d) g
  ·rw[h]at d;have:=(A.typed g).2.1;simp at d;omega
 ·intro B D I L;refine(((Below.refl B W).alloc L tmp).grown hgrow (by simp;omega) fun j C=>?_).setCell (p:=⟨Bh,i,none⟩) I v';exact Nat.le_trans D (hrow.typed C).1
 ·intro k c t d N l;rw[m k l,z k (pf.1 d).1 (fun g=>hrow.not_box d N g.symm),d]
theorem iO (v:Value)(f:Fn)(w:World)(hf:FnAt w.heap.size w v f)(hs:f.blocks.length<=100000)(hit:(Ir.items f).length<=1000000)(hne:Hid (∀l∈f.blocks,l≠[])) :
  Calls prog 72 #[v] w fun e w'=>∃vb va vg,e=.returned (.agg #[.int .i64 f.params.length,vb,va,vg])/\IntsAt w'.heap.size w' vb (ji f)/\IntsAt w'.heap.size w' va (ei f)/\TabAt w'.heap.size w' vg (Ref.graph f)/\Gr w w':=by
 obtain⟨i0,hi,aX,aY,aZ⟩:=info_parts ej;have aW:=hf
 have HG:Hid (∀w1,Gr w w1->Calls prog 86 #[v] w1 fun e w'=>∃B n C us,e=.returned (.slice B n C)/\Hid (Own1 (w1.heap.size+1) 22 w' (.slice B n C) us/\Tab1 (w1.heap.size+1) 3 w' us (Ref.graph f))/\Gr w1 w') :=
  fun w1 q=>(kn v f w1 (hf.gr q) hs hne).mono fun _ _ ⟨u,us,h1,h2,h3,h4⟩=>by obtain⟨B,C,e⟩:=h2.form;subst e;exact⟨B,_,C,us,h1,⟨h2,h3⟩,h4⟩
 obtain⟨vp,vs,vb,rfl,hp,bj,hb⟩:=hf;obtain⟨Ap,cp,rfl,bo,bp,-⟩:=hp;obtain⟨As,cs,rfl,-,-,-⟩:=bj;obtain⟨Ab,cb,rfl,-,-,-⟩:=hb;refine(callsIn_wide (n:=5)).1 ?_;refine callsIn_of_wp_marks func72 rfl trivial ?_ rfl;simp only[ntmps72,List.size_toArray,List.length_cons,List.length_nil,Nat.reduceAdd,Nat.reduceSub,Array.replicate_succ,Array.replicate_zero,List.push_toArray,List.append_toArray,List.nil_append,List.cons_append];refine wpIn_wide.2 ?_;obtain⟨W,hW⟩:=xJ ((w.alloc (.cells #[.slice Ap f.params.length cp,.int .i64 f.ret,.slice As f.slots.length cs,.slice Ab f.blocks.length cb] 25)).alloc (.cells #[.int .i64 0,.slice none 0 0,.slice none 0 0,.slice none 0 0] 100));have aV:Gr w W:=by rw[<-hW];exact((qj w).alloc _).alloc _
 have bd:W.heap.size=w.heap.size+2:=by rw[<-hW];simp
 have g0:Gr (w.alloc (.cells #[.slice Ap f.params.length cp,.int .i64 f.ret,.slice As f.slots.length cs,.slice Ab f.blocks.length cb] 25)) W:=by rw[<-hW];exact(qj _).alloc _
 have kp:Hid (∀w',Gr W w'->(w'.cell? ⟨w.heap.size,0,none⟩=some (.slice Ap f.params.length cp)/\w'.cell? ⟨w.heap.size,1,none⟩=some (.int .i64 f.ret)/\w'.cell? ⟨w.heap.size,2,none⟩=some (.slice As f.slots.length cs)/\w'.cell? ⟨w.heap.size,3,none⟩=some (.slice Ab f.blocks.length cb))) :=
  fun w' q=>⟨(q.cell _ _ (by omega)).trans (dg _ _ 0 g0 rfl),(q.cell _ _ (by omega)).trans (dg _ _ 1 g0 rfl),(q.cell _ _ (by omega)).trans (dg _ _ 2 g0 rfl),(q.cell _ _ (by omega)).trans (dg _ _ 3 g0 rfl)⟩
 have kb:Hid (∀w',Gr (W.alloc (.cells #[.int .i64 0,.slice none 0 0,.slice none 0 0,.slice none 0 0] 100)) w'->w'.heap[w.heap.size+2]?=some (.cells #[.int .i64 0,.slice none 0 0,.slice none 0 0,.slice none 0 0] 100 (0,0))) :=
  fun w' q=>(q.heap _ (by simp;omega)).trans (by rw[<-bd];exact heap_alloc_new W _)
 clear g0
 have a9:Hid (∀w1,Calls prog 50 #[.agg #[.slice Ap f.params.length cp,.int .i64 f.ret,.slice As f.slots.length cs,.slice Ab f.blocks.length cb]] w1 fun e w' =>
     e=.returned (.func (.func 81) #[] #[.pointer (some ⟨w1.heap.size,0,none⟩)])/\w'=w1.alloc (.cells #[.slice Ap f.params.length cp,.int .i64 f.ret,.slice As f.slots.length cs,.slice Ab f.blocks.length cb] 25)) :=
  fun w1=>iF f Ap As Ab _ _ _ cp cs cb w1
 have ak:W.heap[w.heap.size+1]?=some (.cells #[.int .i64 0,.slice none 0 0,.slice none 0 0,.slice none 0 0] 100 (0,0)):=by rw[<-hW];exact heap_alloc2_new w _ _
 go_wp2
 go_region_held3 (fun w'=>w'.cell? ⟨w.heap.size,0,none⟩=some (.slice Ap f.params.length cp)/\w'.cell? ⟨w.heap.size,1,none⟩=some (.int .i64 f.ret)/\w'.cell? ⟨w.heap.size,2,none⟩=some (.slice As f.slots.length cs)/\w'.cell? ⟨w.heap.size,3,none⟩=some (.slice Ab f.blocks.length cb)) (first|exact kp.out _ (qj W).drew|exact kp.out _ g3|exact kp.out _ ((qj W).alloc _).drew|exact kp.out _ (g3.alloc _)|exact kp.out _ (((((g3.setCell (by show W.heap.size<=w.heap.size+2;omega) _).setCell (by show W.heap.size<=w.heap.size+2;omega) _).setCell (by show W.heap.size<=w.heap.size+2;omega) _).setCell (by show W.heap.size<=w.heap.size+2;omega) _)))
  (first|(go_at_call 86;refine(HG.out _ (aV.trans (qj W).drew)).mono ?_;rintro e w3 ⟨B,F,C,us,rfl,al,aA⟩;have g3:=(qj W).drew.trans aA)|(go_at_call 86;refine(HG.out _ (aV.trans ((qj W).alloc _).drew)).mono ?_;rintro e w3 ⟨B,F,C,us,rfl,al,aA⟩;have g3:=((qj W).alloc _).drew.trans aA;have av:=kb.out _ ((qj _).drew.trans aA);obtain⟨x0,x1,x2,x3⟩:=crw4 av 0 1 2 3;obtain⟨y0,y1,y2⟩:=frw3 av 0 1 2;have y3:=pz _ _ 3 _ _ av))
 ·
  have hb:(w3.alloc (.cells #[.int .i64 f.params.length,.slice none 0 0,.slice none 0 0,.slice B F C] 100)).heap[w3.heap.size]?=some (.cells #[.int .i64 f.params.length,.slice none 0 0,.slice none 0 0,.slice B F C] 100 (0,0)):=heap_alloc_new w3 _
  have az:Hid (∀W',(∀k,k<(w3.alloc (.cells #[.int .i64 f.params.length,.slice none 0 0,.slice none 0 0,.slice B F C] 100)).heap.size->k≠w3.heap.size->k≠w.heap.size+1->W'.heap[k]?=(w3.alloc (.cells #[.int .i64 f.params.length,.slice none 0 0,.slice none 0 0,.slice B F C] 100)).heap[k]?)->TabAt W'.heap.size W' (.slice B F C) (Ref.graph f)):=by intro W' hF;obtain⟨q1,q2⟩:=al.out;exact ke hb (((g3.alloc _).heap _ (by omega)).trans ak) (by decide) (by decide) (q1.alloc _) (q2.gr ((qj _).alloc _)) hF (by simp[Ref.graph];omega)
  have U:Gr W (w3.alloc (.cells #[.int .i64 f.params.length,.slice none 0 0,.slice none 0 0,.slice B F C] 100)):=g3.alloc _;have an:w.heap.size+1≠w3.heap.size:=by have:=g3.size;omega
  have aI:w.heap.size<=w3.heap.size:=by have:=g3.size;omega
  obtain⟨I,aG⟩:=xJ w3.heap.size;obtain⟨V,hV⟩:=xJ (w3.alloc (.cells #[.int .i64 f.params.length,.slice none 0 0,.slice none 0 0,.slice B F C] 100));rw[hV]at hb az U ⊢;rw[aG]at hb az an aI ⊢;clear al aA g3 aG hV;obtain⟨k0,k1,k2,k3⟩:=kp.out V U;have aP:V.heap[w.heap.size+1]?=some (.cells #[.int .i64 0,.slice none 0 0,.slice none 0 0,.slice none 0 0] 100 (0,0)):=(U.heap _ (by omega)).trans ak;clear hW;go_wp2_with (go_at_call 50;refine(a9.out _).mono ?_;rintro e w2 ⟨rfl,rfl⟩);obtain⟨E,Q⟩:=xJ (V.alloc (.cells #[.slice Ap f.params.length cp,.int .i64 f.ret,.slice As f.slots.length cs,.slice Ab f.blocks.length cb] 25));have bk:E.heap.size<=V.heap.size+1/\V.heap.size+1<=E.heap.size:=by rw[<-Q];simp
  have aH:I<V.heap.size:=(pf.1 hb).1;have a4:Gr w V:=aV.trans U;have am:Gr w E:=by rw[<-Q];exact a4.alloc _
  have bi:=U.size;have au:E.heap[I]?=some (.cells #[.int .i64 f.params.length,.slice none 0 0,.slice none 0 0,.slice B F C] 100 (0,0)):=by rw[<-Q];exact(((qj V).alloc _).heap I aH).trans hb
  have ar:Frm I V E:=by rw[<-Q];exact(Frm.refl _ _).alloc _
  have ac:∀o,E.cell? ⟨V.heap.size,o,none⟩=(#[.slice Ap f.params.length cp,.int .i64 f.ret,.slice As f.slots.length cs,.slice Ab f.blocks.length cb]:Array Value)[o]?:=by intro o;rw[<-Q];exact px _ _ _ _ _ _ (heap_alloc_new V _)
  rw[Q];have HS:=fp (5-1) (by omega) V.heap.size w.heap.size f _ _ _ w E aW (pS _) am hs (by omega) (ac 0) (ac 3);clear k0 k1 k2 k3 ac;refine(wpIn_wide (n:=5)).1 ?_
  refine wpIn_rangeFunc_ownH (n:=5) rfl (by omega) (gf:=81) (lb:=#[.pointer (some ⟨V.heap.size,0,none⟩)]) rfl trivial (enters_of func81 (by kernel_rfl) rfl) HS belowK_t (belowK_b (by omega)) (Below.refl _ _) (fun _=>rfl)
   (fun d g=>(∃vb va,g.heap[I]?=some (.cells #[.int .i64 f.params.length,vb,va,.slice B F C] 100 (0,0))/\Own1 E.heap.size 3 g vb (((prj d).map fun it=>(it.blk:Int)).map (Value.int .i64))/\Own1 E.heap.size 3 g va (((prj d).map fun it=>(it.pos:Int)).map (Value.int .i64))/\Apart vb va)/\(Below w.heap.size w g/\Frm I V g/\E.heap.size<=g.heap.size))
   (fun _ _ _=>False)
   (OwnFrom.and (pW fun vb=>pW fun va=>OwnFrom.and (eA _ _ _) (OwnFrom.and (fX _ _ _ _ _) (OwnFrom.and (fX _ _ _ _ _) (ownFrom_pure _ _)))) (OwnFrom.and (ownFrom_below (pS _) (by omega)) (OwnFrom.and (fun s X Y row h hg hr=>lF I V s X Y row h hg (fun r e=>⟨by have:=(hr r e).1;omega,(hr r e).2⟩)) (fun _ _ _ _ h hg _=>Nat.le_trans h hg.size))))
   (fun _ _ _ _ _ hs _ _=>hs)
   ⟨⟨_,_,au,Own1.nil _ _ _,Own1.nil _ _ _,fun k H=>by simp[Value.ownBlock]at H⟩,am,ar,pS _⟩
   (fun x a' g=>∃Bx,E.heap.size<=Bx/\g.heap[Bx]?=some (.cells x.1.row 80 (0,0))/\a'={tmps:=#[.agg #[.slice Ap f.params.length cp,.int .i64 f.ret,.slice As f.slots.length cs,.slice Ab f.blocks.length cb],.pointer (some ⟨w.heap.size,0,none⟩),.pointer (some ⟨w.heap.size+1,0,none⟩),.pointer (some ⟨I,0,none⟩),.pointer (some ⟨Bx,0,none⟩),.pointer (some ⟨w.heap.size,0,none⟩),.slice Ap f.params.length cp,.int .i64 f.params.length,.agg #[.slice Ap f.params.length cp,.int .i64 f.ret,.slice As f.slots.length cs,.slice Ab f.blocks.length cb],.slice B F C,.agg #[.int .i64 f.params.length,.slice none 0 0,.slice none 0 0,.slice B F C],.agg #[.slice Ap f.params.length cp,.int .i64 f.ret,.slice As f.slots.length cs,.slice Ab f.blocks.length cb],.func (.func 81) #[] #[.pointer (some ⟨V.heap.size,0,none⟩)],x.1.enc,undef,undef,undef,undef,undef,undef,undef,undef,undef,undef,undef,undef,undef,undef,undef],defers:=[]})
   ?hAx ?assign ?body ?done ?stop
  case hAx =>
   intro x a' s X Y row h hg hr;obtain⟨Bx,h1,h2,h3⟩:=h;refine⟨Bx,h1,(hg.block Bx (pf.1 h2).1 (fun e=>?_)).trans h2,h3⟩;obtain⟨-,o,ho,hc⟩:=hr Bx e.symm;rw[h2]at ho;cases ho;cases hc
  case assign =>
   rintro l d ⟨⟨⟨xi,num,blk,pos⟩,aa,ca,ta,ct⟩,G⟩ g K ⟨⟨vb,va,R,m,z,ah⟩,hB,hF,ax⟩ hK;simp only[ItV.enc];gi_wp2;exact hK _ _ ((KeepsOthers.alloc _ _).from _) ((Below.refl _ g).alloc hB.size _) ⟨⟨vb,va,((qj g).alloc _).heap I (by omega) |>.trans R,m.alloc _,z.alloc _,ah⟩,hB.alloc hB.size _,hF.alloc _,by simp;omega⟩ ⟨g.heap.size,ax,heap_alloc_new g _,rfl⟩
  case body =>
   rintro l d ⟨⟨⟨xi,num,blk,pos⟩,aa,ca,ta,ct⟩,G⟩ a' g hl ⟨r,be⟩ ⟨⟨vb,va,R,m,z,ah⟩,hB,hF,ax⟩ ⟨Bx,bc,ag,rfl⟩ a7;have aw:d.length=(prj d).length:=by simp[prj]
   have a5:(((prj d).map fun it=>(it.blk:Int)).map (Value.int .i64)).length<=2000000:=by simp;omega
   have a6:(((prj d).map fun it=>(it.pos:Int)).map (Value.int .i64)).length<=2000000:=by simp;omega
   have aB:Hid (((prj (d++[⟨⟨⟨xi,num,blk,pos⟩,aa,ca,ta,ct⟩,G⟩])).map fun it=>(it.blk:Int)).map (Value.int .i64)=((prj d).map fun it=>(it.blk:Int)).map (Value.int .i64)++[.int .i64 blk]):=by show _=_;rw[eI];simp
   have aC:Hid (((prj (d++[⟨⟨⟨xi,num,blk,pos⟩,aa,ca,ta,ct⟩,G⟩])).map fun it=>(it.pos:Int)).map (Value.int .i64)=((prj d).map fun it=>(it.pos:Int)).map (Value.int .i64)++[.int .i64 pos]):=by show _=_;rw[eI];simp
   obtain⟨L1,aL⟩:=xJ (((prj d).map fun it=>(it.blk:Int)).map (Value.int .i64));obtain⟨L2,aM⟩:=xJ (((prj d).map fun it=>(it.pos:Int)).map (Value.int .i64));rw[aL]at m aB a5;rw[aM]at z aC a6;have aT:∀o,g.cell? ⟨Bx,o,none⟩=(ItV.row ⟨⟨xi,num,blk,pos⟩,aa,ca,ta,ct⟩)[o]?:=fun o=>px g Bx o _ _ _ ag;have bl:g.cell? ⟨Bx,7,none⟩=some (.int .i64 blk):=aT 7;have bf:g.cell? ⟨I,1,none⟩=some vb:=px _ _ 1 _ _ _ R;have a1:Bx<g.heap.size:=(pf.1 ag).1;have ba:=hB.size;have a8:Bx≠I:=by omega
   clear aT aL aM aw a7;gi_wp2_with (first|(gi_at_builtin;refine wpListIn_append_own_at _ rfl (.tmp 15) (.tmp 18) 22 rfl E.heap.size 3 i0 (.int .i64 0) 1 8 underlying22 hi aX aY aZ rfl (by decide) _ _ _ rfl (m.alloc _) ⟨g.heap.size,0,none⟩ 1 1 [.int .i64 blk] rfl rfl (cell_one_new _ _ _) (by simp[Value.oneCell']) (by simp only[maxLen];omega) (by omega) (by simp;omega) ?_;intro v1 w1 ae ai _ aN;obtain⟨g1,aD,rfl⟩:=ownsRow_succ ae;obtain⟨m1,m2,m3,m4,m5,m6,m7,m8⟩:=ed (i:=1) (n₀:=E.heap.size) (ys:=L1++[.int .i64 blk]) R (by decide) m (by unfold Own1;rw[pT];exact ae) ai aN;obtain⟨n1,n2⟩:=m6 _ _ z ah;have c1:=px _ _ 1 _ _ _ m1;have f1:=pz _ _ 1 _ _ m1;obtain⟨ay,aR⟩:=xJ (w1.setCell ⟨I,1,none⟩ (.slice (some ⟨g1,0,none⟩) (L1.length+1) aD));have p1:=m7 w.heap.size (by omega) (by omega) (by omega);rw[aR]at m2 m3 m4 m5 n1 p1 m8;clear m1 m6 m7;have a2:=m5 V hF (by omega);have bg:ay.cell? ⟨I,2,none⟩=some va:=px _ _ 2 _ _ _ m2;have bb:=m4.size;have bm:ay.cell? ⟨Bx,8,none⟩=some (.int .i64 pos):=px _ _ 8 _ _ _ (m8 Bx _ _ ag (by decide) a8);clear m5 m8)|(gi_at_builtin;refine wpListIn_append_own_at _ rfl (.tmp 22) (.tmp 25) 22 rfl E.heap.size 3 i0 (.int .i64 0) 1 8 underlying22 hi aX aY aZ rfl (by decide) _ _ _ rfl (n1.alloc _) ⟨ay.heap.size,0,none⟩ 1 1 [.int .i64 pos] rfl rfl (cell_one_new _ _ _) (by simp[Value.oneCell']) (by simp only[maxLen];omega) (by omega) (by simp;omega) ?_;intro v2 w2 af aj _ aO;obtain⟨g2,aE,rfl⟩:=ownsRow_succ af;obtain⟨k1,k2,k3,k4,k5,k6,k7,-⟩:=ed (i:=2) (n₀:=E.heap.size) (ys:=L2++[.int .i64 pos]) m2 (by decide) n1 (by unfold Own1;rw[pT];exact af) aj aO;obtain⟨j1,j2⟩:=k6 _ _ m3 n2.symm;have c2:=px _ _ 2 _ _ _ k1;have f2:=pz _ _ 2 _ _ k1;obtain⟨bn,aS⟩:=xJ (w2.setCell ⟨I,2,none⟩ (.slice (some ⟨g2,0,none⟩) (L2.length+1) aE));have p2:=k7 w.heap.size (by omega) (by omega) (by omega);have aK:=k5 V a2 (by omega);rw[aS]at k2 k3 k4 aK j1 p2;clear k1 k5 k6 k7));have bh:=k4.size;refine⟨(m4.trans k4).from _,p1.trans p2,⟨_,_,k2,?_,?_,j2.symm⟩,hB.trans (p1.trans p2),aK,by omega⟩
   ·rw[<-aB.out]at j1;simpa using j1
   ·rw[<-aC.out]at k3;simpa using k3
  case done =>
   rintro D ys g hD aU ⟨⟨vb,va,R,m,z,ah⟩,hB,hF,ax⟩ O;rw[aU]at m z;have fb:∃A c,vb=.slice A (Ir.items f).length c:=by obtain⟨A,c,e⟩:=m.form;exact⟨A,c,by rw[e];simp⟩
   have fa:∃A c,va=.slice A (Ir.items f).length c:=by obtain⟨A,c,e⟩:=z.form;exact⟨A,c,by rw[e];simp⟩
   obtain⟨L,N,rfl⟩:=fb;obtain⟨J,M,rfl⟩:=fa;clear aU;have y:g.heap[w.heap.size+1]?=some (.cells #[.int .i64 0,.slice none 0 0,.slice none 0 0,.slice none 0 0] 100 (0,0)):=(hF.2 _ (by omega) an).trans aP;obtain⟨r0,r1,r2,r3⟩:=crw4 y 0 1 2 3;obtain⟨z0,z1,z2,z3⟩:=frw4 y 0 1 2 3;obtain⟨q0,q1,q2,q3⟩:=crw4 R 0 1 2 3;have aJ:D≠w.heap.size+1:=fun e=>by rw[e,y]at O;cases O
   clear aW;go_wp2;obtain⟨Wf,ab⟩:=xJ (((((g.setCell ⟨w.heap.size+1,0,none⟩ (.int .i64 f.params.length)).setCell ⟨w.heap.size+1,1,none⟩ (.slice L (Ir.items f).length N)).setCell ⟨w.heap.size+1,2,none⟩ (.slice J (Ir.items f).length M)).setCell ⟨w.heap.size+1,3,none⟩ (.slice B F C)));have hx:=de (i:=3) (.slice B F C) (de (i:=2) (.slice J (Ir.items f).length M) (de (i:=1) (.slice L (Ir.items f).length N) (de (i:=0) (.int .i64 f.params.length) y)))
   have t:∀k,k≠w.heap.size+1->Wf.heap[k]?=g.heap[k]?:=by intro k H;rw[<-ab];rw[Below.heap_setCell _ _ _ k H,Below.heap_setCell _ _ _ k H,Below.heap_setCell _ _ _ k H,Below.heap_setCell _ _ _ k H]
   have aF:Below w.heap.size g Wf:=by rw[<-ab];exact((((Below.refl _ g).setCell (p:=⟨w.heap.size+1,0,none⟩) (by show _<=w.heap.size+1;omega) _).setCell (p:=⟨w.heap.size+1,1,none⟩) (by show _<=w.heap.size+1;omega) _).setCell (p:=⟨w.heap.size+1,2,none⟩) (by show _<=w.heap.size+1;omega) _).setCell (p:=⟨w.heap.size+1,3,none⟩) (by show _<=w.heap.size+1;omega) _
   rw[ab]at hx;have Z:Wf.heap[D]?=some (.deferred (some [])):=(t D aJ).trans O;rw[ab];have aq:Below w.heap.size Wf (Wf.putObj D (.deferred none)):=belowK_b (w:=w) (pS _) Wf D _ _ (by omega) Z rfl rfl;have T:(Wf.putObj D (.deferred none)).heap[w.heap.size+1]?=some (.cells #[.int .i64 f.params.length,.slice L (Ir.items f).length N,.slice J (Ir.items f).length M,.slice B F C] 100 (0,0)):=(World.putObj_heap_other (fun e=>aJ e.symm)).trans hx;have ad:∀k,k≠w.heap.size+1->k≠D->(Wf.putObj D (.deferred none)).heap[k]?=g.heap[k]?:=fun k h1 h2=>(World.putObj_heap_other h2).trans (t k h1);have aQ:(Wf.putObj D (.deferred none)).heap.size=g.heap.size:=by rw[World.putObj_size,<-ab];simp
   refine⟨by simp,.inl ⟨_,_,rfl,run_takeDeferred Z,?_⟩⟩;obtain⟨W9,a3⟩:=xJ (Wf.putObj D (.deferred none));rw[a3]at aq T ad aQ ⊢;have s0:W9.cell? ⟨w.heap.size+1,0,none⟩=some (.int .i64 f.params.length):=px _ _ 0 _ _ _ T;have s1:W9.cell? ⟨w.heap.size+1,1,none⟩=some (.slice L (Ir.items f).length N):=px _ _ 1 _ _ _ T;have s2:W9.cell? ⟨w.heap.size+1,2,none⟩=some (.slice J (Ir.items f).length M):=px _ _ 2 _ _ _ T;have s3:W9.cell? ⟨w.heap.size+1,3,none⟩=some (.slice B F C):=px _ _ 3 _ _ _ T
   have ap:Own1 E.heap.size 3 W9 (.slice L (Ir.items f).length N) ((ji f).map (Value.int .i64)):=m.keep fun k H=>by obtain⟨t1,t2,a0,t3⟩:=m.typed H;exact ad k (by omega) (fun e=>by rw[e,O]at t3;cases t3)
   have ao:Own1 E.heap.size 3 W9 (.slice J (Ir.items f).length M) ((ei f).map (Value.int .i64)):=z.keep fun k H=>by obtain⟨t1,t2,a0,t3⟩:=z.typed H;exact ad k (by omega) (fun e=>by rw[e,O]at t3;cases t3)
   refine⟨.agg #[.int .i64 f.params.length,.slice L (Ir.items f).length N,.slice J (Ir.items f).length M,.slice B F C],(by clear t hx aF ad aQ aq T ap ao O Z;simp[results,results72,go_sem,s0,s1,s2,s3]),_,_,_,rfl,?_,?_,?_,?_⟩
   ·exact ap.ints (by simp[ji];omega)
   ·exact ao.ints (by simp[ei];omega)
   ·refine az.out W9 fun k h1 h2 h3=>?_;exact(ad k h3 (by omega)).trans (hF.2 k h1 h2)
   ·exact hB.trans (aF.trans aq)
  case stop =>
   rintro D c d g _ _ h _;exact h.elim
 ·have au:=de (i:=3) (.slice B F C) (de (i:=2) (.slice none 0 0) (de (i:=1) (.slice none 0 0) (de (i:=0) (.int .i64 f.params.length) av)))
  have U:Gr W ((((w3.setCell ⟨w.heap.size+2,0,none⟩ (.int .i64 f.params.length)).setCell ⟨w.heap.size+2,1,none⟩ (.slice none 0 0)).setCell ⟨w.heap.size+2,2,none⟩ (.slice none 0 0)).setCell ⟨w.heap.size+2,3,none⟩ (.slice B F C)):=by
   iterate 4 refine Gr.setCell ?_ (by show W.heap.size<=w.heap.size+2;omega) _
   exact g3
  obtain⟨V,hV⟩:=xJ (((((w3.setCell ⟨w.heap.size+2,0,none⟩ (.int .i64 f.params.length)).setCell ⟨w.heap.size+2,1,none⟩ (.slice none 0 0)).setCell ⟨w.heap.size+2,2,none⟩ (.slice none 0 0)).setCell ⟨w.heap.size+2,3,none⟩ (.slice B F C)))
  have ar:∀k,k≠w.heap.size+2->V.heap[k]?=w3.heap[k]?:=by intro k H;rw[<-hV];rw[Below.heap_setCell _ _ _ k H,Below.heap_setCell _ _ _ k H,Below.heap_setCell _ _ _ k H,Below.heap_setCell _ _ _ k H]
  rw[hV]at au U ⊢;have hb:V.heap[w.heap.size+2]?=some (.cells #[.int .i64 f.params.length,.slice none 0 0,.slice none 0 0,.slice B F C] 100 (0,0)):=au
  have az:Hid (∀W',(∀k,k<V.heap.size->k≠w.heap.size+2->k≠w.heap.size+1->W'.heap[k]?=V.heap[k]?)->TabAt W'.heap.size W' (.slice B F C) (Ref.graph f)):=by
   intro W' hF;obtain⟨q1,q2⟩:=al.out;have r1:Own1 ((W.alloc (.cells #[.int .i64 0,.slice none 0 0,.slice none 0 0,.slice none 0 0] 100)).drew.heap.size+1) 22 V (.slice B F C) us:=q1.keep fun k H=>ar k (fun e=>q1.not_box av (by decide) (e ▸ H))
   have r2:Tab1 ((W.alloc (.cells #[.int .i64 0,.slice none 0 0,.slice none 0 0,.slice none 0 0] 100)).drew.heap.size+1) 3 V us (Ref.graph f):=⟨q2.1,fun j l hl=>by
     obtain⟨u',p1,p2,p3⟩:=q2.2 j l hl
     exact⟨u',p1,p2.keep fun k H=>ar k (fun e=>p2.not_box av (by decide) (e ▸ H)),p3⟩⟩
   exact ke hb ((U.heap _ (by omega)).trans ak) (by decide) (by decide) r1 r2 hF (by simp[Ref.graph];omega)
  have an:w.heap.size+1≠w.heap.size+2:=by omega
  have aI:w.heap.size<=w.heap.size+2:=by omega
  clear x0 x1 x2 x3 y0 y1 y2 y3 au ar hV av al aA g3;obtain⟨I,aG⟩:=xJ (w.heap.size+2);rw[aG]at hb az an aI ⊢;clear aG;obtain⟨k0,k1,k2,k3⟩:=kp.out V U;have aP:V.heap[w.heap.size+1]?=some (.cells #[.int .i64 0,.slice none 0 0,.slice none 0 0,.slice none 0 0] 100 (0,0)):=(U.heap _ (by omega)).trans ak;clear hW;go_wp2_with (go_at_call 50;refine(a9.out _).mono ?_;rintro e w2 ⟨rfl,rfl⟩);obtain⟨E,Q⟩:=xJ (V.alloc (.cells #[.slice Ap f.params.length cp,.int .i64 f.ret,.slice As f.slots.length cs,.slice Ab f.blocks.length cb] 25));have bk:E.heap.size<=V.heap.size+1/\V.heap.size+1<=E.heap.size:=by rw[<-Q];simp
  have aH:I<V.heap.size:=(pf.1 hb).1;have a4:Gr w V:=aV.trans U;have am:Gr w E:=by rw[<-Q];exact a4.alloc _
  have bi:=U.size;have au:E.heap[I]?=some (.cells #[.int .i64 f.params.length,.slice none 0 0,.slice none 0 0,.slice B F C] 100 (0,0)):=by rw[<-Q];exact(((qj V).alloc _).heap I aH).trans hb
  have ar:Frm I V E:=by rw[<-Q];exact(Frm.refl _ _).alloc _
  have ac:∀o,E.cell? ⟨V.heap.size,o,none⟩=(#[.slice Ap f.params.length cp,.int .i64 f.ret,.slice As f.slots.length cs,.slice Ab f.blocks.length cb]:Array Value)[o]?:=by intro o;rw[<-Q];exact px _ _ _ _ _ _ (heap_alloc_new V _)
  rw[Q];have HS:=fp (5-1) (by omega) V.heap.size w.heap.size f _ _ _ w E aW (pS _) am hs (by omega) (ac 0) (ac 3);clear k0 k1 k2 k3 ac;refine(wpIn_wide (n:=5)).1 ?_
  refine wpIn_rangeFunc_ownH (n:=5) rfl (by omega) (gf:=81) (lb:=#[.pointer (some ⟨V.heap.size,0,none⟩)]) rfl trivial (enters_of func81 (by kernel_rfl) rfl) HS belowK_t (belowK_b (by omega)) (Below.refl _ _) (fun _=>rfl)
   (fun d g=>(∃vb va,g.heap[I]?=some (.cells #[.int .i64 f.params.length,vb,va,.slice B F C] 100 (0,0))/\Own1 E.heap.size 3 g vb (((prj d).map fun it=>(it.blk:Int)).map (Value.int .i64))/\Own1 E.heap.size 3 g va (((prj d).map fun it=>(it.pos:Int)).map (Value.int .i64))/\Apart vb va)/\(Below w.heap.size w g/\Frm I V g/\E.heap.size<=g.heap.size))
   (fun _ _ _=>False)
   (OwnFrom.and (pW fun vb=>pW fun va=>OwnFrom.and (eA _ _ _) (OwnFrom.and (fX _ _ _ _ _) (OwnFrom.and (fX _ _ _ _ _) (ownFrom_pure _ _)))) (OwnFrom.and (ownFrom_below (pS _) (by omega)) (OwnFrom.and (fun s X Y row h hg hr=>lF I V s X Y row h hg (fun r e=>⟨by have:=(hr r e).1;omega,(hr r e).2⟩)) (fun _ _ _ _ h hg _=>Nat.le_trans h hg.size))))
   (fun _ _ _ _ _ hs _ _=>hs)
   ⟨⟨_,_,au,Own1.nil _ _ _,Own1.nil _ _ _,fun k H=>by simp[Value.ownBlock]at H⟩,am,ar,pS _⟩
   (fun x a' g=>∃Bx,E.heap.size<=Bx/\g.heap[Bx]?=some (.cells x.1.row 80 (0,0))/\a'={tmps:=#[.agg #[.slice Ap f.params.length cp,.int .i64 f.ret,.slice As f.slots.length cs,.slice Ab f.blocks.length cb],.pointer (some ⟨w.heap.size,0,none⟩),.pointer (some ⟨w.heap.size+1,0,none⟩),.pointer (some ⟨I,0,none⟩),.pointer (some ⟨Bx,0,none⟩),.pointer (some ⟨w.heap.size,0,none⟩),.slice Ap f.params.length cp,.int .i64 f.params.length,.agg #[.slice Ap f.params.length cp,.int .i64 f.ret,.slice As f.slots.length cs,.slice Ab f.blocks.length cb],.slice B F C,.agg #[.int .i64 f.params.length,.slice none 0 0,.slice none 0 0,.slice B F C],.agg #[.slice Ap f.params.length cp,.int .i64 f.ret,.slice As f.slots.length cs,.slice Ab f.blocks.length cb],.func (.func 81) #[] #[.pointer (some ⟨V.heap.size,0,none⟩)],x.1.enc,undef,undef,undef,undef,undef,undef,undef,undef,undef,undef,undef,undef,undef,undef,undef],defers:=[]})
   ?hAx ?assign ?body ?done ?stop
  case hAx =>
   intro x a' s X Y row h hg hr;obtain⟨Bx,h1,h2,h3⟩:=h;refine⟨Bx,h1,(hg.block Bx (pf.1 h2).1 (fun e=>?_)).trans h2,h3⟩;obtain⟨-,o,ho,hc⟩:=hr Bx e.symm;rw[h2]at ho;cases ho;cases hc
  case assign =>
   rintro l d ⟨⟨⟨xi,num,blk,pos⟩,aa,ca,ta,ct⟩,G⟩ g K ⟨⟨vb,va,R,m,z,ah⟩,hB,hF,ax⟩ hK;simp only[ItV.enc];gi_wp2;exact hK _ _ ((KeepsOthers.alloc _ _).from _) ((Below.refl _ g).alloc hB.size _) ⟨⟨vb,va,((qj g).alloc _).heap I (by omega) |>.trans R,m.alloc _,z.alloc _,ah⟩,hB.alloc hB.size _,hF.alloc _,by simp;omega⟩ ⟨g.heap.size,ax,heap_alloc_new g _,rfl⟩
  case body =>
   rintro l d ⟨⟨⟨xi,num,blk,pos⟩,aa,ca,ta,ct⟩,G⟩ a' g hl ⟨r,be⟩ ⟨⟨vb,va,R,m,z,ah⟩,hB,hF,ax⟩ ⟨Bx,bc,ag,rfl⟩ a7;have aw:d.length=(prj d).length:=by simp[prj]
   have a5:(((prj d).map fun it=>(it.blk:Int)).map (Value.int .i64)).length<=2000000:=by simp;omega
   have a6:(((prj d).map fun it=>(it.pos:Int)).map (Value.int .i64)).length<=2000000:=by simp;omega
   have aB:Hid (((prj (d++[⟨⟨⟨xi,num,blk,pos⟩,aa,ca,ta,ct⟩,G⟩])).map fun it=>(it.blk:Int)).map (Value.int .i64)=((prj d).map fun it=>(it.blk:Int)).map (Value.int .i64)++[.int .i64 blk]):=by show _=_;rw[eI];simp
   have aC:Hid (((prj (d++[⟨⟨⟨xi,num,blk,pos⟩,aa,ca,ta,ct⟩,G⟩])).map fun it=>(it.pos:Int)).map (Value.int .i64)=((prj d).map fun it=>(it.pos:Int)).map (Value.int .i64)++[.int .i64 pos]):=by show _=_;rw[eI];simp
   obtain⟨L1,aL⟩:=xJ (((prj d).map fun it=>(it.blk:Int)).map (Value.int .i64));obtain⟨L2,aM⟩:=xJ (((prj d).map fun it=>(it.pos:Int)).map (Value.int .i64));rw[aL]at m aB a5;rw[aM]at z aC a6;have aT:∀o,g.cell? ⟨Bx,o,none⟩=(ItV.row ⟨⟨xi,num,blk,pos⟩,aa,ca,ta,ct⟩)[o]?:=fun o=>px g Bx o _ _ _ ag;have bl:g.cell? ⟨Bx,7,none⟩=some (.int .i64 blk):=aT 7;have bf:g.cell? ⟨I,1,none⟩=some vb:=px _ _ 1 _ _ _ R;have a1:Bx<g.heap.size:=(pf.1 ag).1;have ba:=hB.size;have a8:Bx≠I:=by omega
   clear aT aL aM aw a7;gi_wp2_with (first|(gi_at_builtin;refine wpListIn_append_own_at _ rfl (.tmp 15) (.tmp 18) 22 rfl E.heap.size 3 i0 (.int .i64 0) 1 8 underlying22 hi aX aY aZ rfl (by decide) _ _ _ rfl (m.alloc _) ⟨g.heap.size,0,none⟩ 1 1 [.int .i64 blk] rfl rfl (cell_one_new _ _ _) (by simp[Value.oneCell']) (by simp only[maxLen];omega) (by omega) (by simp;omega) ?_;intro v1 w1 ae ai _ aN;obtain⟨g1,aD,rfl⟩:=ownsRow_succ ae;obtain⟨m1,m2,m3,m4,m5,m6,m7,m8⟩:=ed (i:=1) (n₀:=E.heap.size) (ys:=L1++[.int .i64 blk]) R (by decide) m (by unfold Own1;rw[pT];exact ae) ai aN;obtain⟨n1,n2⟩:=m6 _ _ z ah;have c1:=px _ _ 1 _ _ _ m1;have f1:=pz _ _ 1 _ _ m1;obtain⟨ay,aR⟩:=xJ (w1.setCell ⟨I,1,none⟩ (.slice (some ⟨g1,0,none⟩) (L1.length+1) aD));have p1:=m7 w.heap.size (by omega) (by omega) (by omega);rw[aR]at m2 m3 m4 m5 n1 p1 m8;clear m1 m6 m7;have a2:=m5 V hF (by omega);have bg:ay.cell? ⟨I,2,none⟩=some va:=px _ _ 2 _ _ _ m2;have bb:=m4.size;have bm:ay.cell? ⟨Bx,8,none⟩=some (.int .i64 pos):=px _ _ 8 _ _ _ (m8 Bx _ _ ag (by decide) a8);clear m5 m8)|(gi_at_builtin;refine wpListIn_append_own_at _ rfl (.tmp 22) (.tmp 25) 22 rfl E.heap.size 3 i0 (.int .i64 0) 1 8 underlying22 hi aX aY aZ rfl (by decide) _ _ _ rfl (n1.alloc _) ⟨ay.heap.size,0,none⟩ 1 1 [.int .i64 pos] rfl rfl (cell_one_new _ _ _) (by simp[Value.oneCell']) (by simp only[maxLen];omega) (by omega) (by simp;omega) ?_;intro v2 w2 af aj _ aO;obtain⟨g2,aE,rfl⟩:=ownsRow_succ af;obtain⟨k1,k2,k3,k4,k5,k6,k7,-⟩:=ed (i:=2) (n₀:=E.heap.size) (ys:=L2++[.int .i64 pos]) m2 (by decide) n1 (by unfold Own1;rw[pT];exact af) aj aO;obtain⟨j1,j2⟩:=k6 _ _ m3 n2.symm;have c2:=px _ _ 2 _ _ _ k1;have f2:=pz _ _ 2 _ _ k1;obtain⟨bn,aS⟩:=xJ (w2.setCell ⟨I,2,none⟩ (.slice (some ⟨g2,0,none⟩) (L2.length+1) aE));have p2:=k7 w.heap.size (by omega) (by omega) (by omega);have aK:=k5 V a2 (by omega);rw[aS]at k2 k3 k4 aK j1 p2;clear k1 k5 k6 k7));have bh:=k4.size;refine⟨(m4.trans k4).from _,p1.trans p2,⟨_,_,k2,?_,?_,j2.symm⟩,hB.trans (p1.trans p2),aK,by omega⟩
   ·rw[<-aB.out]at j1;simpa using j1
   ·rw[<-aC.out]at k3;simpa using k3
  case done =>
   rintro D ys g hD aU ⟨⟨vb,va,R,m,z,ah⟩,hB,hF,ax⟩ O;rw[aU]at m z;have fb:∃A c,vb=.slice A (Ir.items f).length c:=by obtain⟨A,c,e⟩:=m.form;exact⟨A,c,by rw[e];simp⟩
   have fa:∃A c,va=.slice A (Ir.items f).length c:=by obtain⟨A,c,e⟩:=z.form;exact⟨A,c,by rw[e];simp⟩
   obtain⟨L,N,rfl⟩:=fb;obtain⟨J,M,rfl⟩:=fa;clear aU;have y:g.heap[w.heap.size+1]?=some (.cells #[.int .i64 0,.slice none 0 0,.slice none 0 0,.slice none 0 0] 100 (0,0)):=(hF.2 _ (by omega) an).trans aP;obtain⟨r0,r1,r2,r3⟩:=crw4 y 0 1 2 3;obtain⟨z0,z1,z2,z3⟩:=frw4 y 0 1 2 3;obtain⟨q0,q1,q2,q3⟩:=crw4 R 0 1 2 3;have aJ:D≠w.heap.size+1:=fun e=>by rw[e,y]at O;cases O
   clear aW;go_wp2;obtain⟨Wf,ab⟩:=xJ (((((g.setCell ⟨w.heap.size+1,0,none⟩ (.int .i64 f.params.length)).setCell ⟨w.heap.size+1,1,none⟩ (.slice L (Ir.items f).length N)).setCell ⟨w.heap.size+1,2,none⟩ (.slice J (Ir.items f).length M)).setCell ⟨w.heap.size+1,3,none⟩ (.slice B F C)));have hx:=de (i:=3) (.slice B F C) (de (i:=2) (.slice J (Ir.items f).length M) (de (i:=1) (.slice L (Ir.items f).length N) (de (i:=0) (.int .i64 f.params.length) y)))
   have t:∀k,k≠w.heap.size+1->Wf.heap[k]?=g.heap[k]?:=by intro k H;rw[<-ab];rw[Below.heap_setCell _ _ _ k H,Below.heap_setCell _ _ _ k H,Below.heap_setCell _ _ _ k H,Below.heap_setCell _ _ _ k H]
   have aF:Below w.heap.size g Wf:=by rw[<-ab];exact((((Below.refl _ g).setCell (p:=⟨w.heap.size+1,0,none⟩) (by show _<=w.heap.size+1;omega) _).setCell (p:=⟨w.heap.size+1,1,none⟩) (by show _<=w.heap.size+1;omega) _).setCell (p:=⟨w.heap.size+1,2,none⟩) (by show _<=w.heap.size+1;omega) _).setCell (p:=⟨w.heap.size+1,3,none⟩) (by show _<=w.heap.size+1;omega) _
   rw[ab]at hx;have Z:Wf.heap[D]?=some (.deferred (some [])):=(t D aJ).trans O;rw[ab];have aq:Below w.heap.size Wf (Wf.putObj D (.deferred none)):=belowK_b (w:=w) (pS _) Wf D _ _ (by omega) Z rfl rfl;have T:(Wf.putObj D (.deferred none)).heap[w.heap.size+1]?=some (.cells #[.int .i64 f.params.length,.slice L (Ir.items f).length N,.slice J (Ir.items f).length M,.slice B F C] 100 (0,0)):=(World.putObj_heap_other (fun e=>aJ e.symm)).trans hx;have ad:∀k,k≠w.heap.size+1->k≠D->(Wf.putObj D (.deferred none)).heap[k]?=g.heap[k]?:=fun k h1 h2=>(World.putObj_heap_other h2).trans (t k h1);have aQ:(Wf.putObj D (.deferred none)).heap.size=g.heap.size:=by rw[World.putObj_size,<-ab];simp
   refine⟨by simp,.inl ⟨_,_,rfl,run_takeDeferred Z,?_⟩⟩;obtain⟨W9,a3⟩:=xJ (Wf.putObj D (.deferred none));rw[a3]at aq T ad aQ ⊢;have s0:W9.cell? ⟨w.heap.size+1,0,none⟩=some (.int .i64 f.params.length):=px _ _ 0 _ _ _ T;have s1:W9.cell? ⟨w.heap.size+1,1,none⟩=some (.slice L (Ir.items f).length N):=px _ _ 1 _ _ _ T;have s2:W9.cell? ⟨w.heap.size+1,2,none⟩=some (.slice J (Ir.items f).length M):=px _ _ 2 _ _ _ T;have s3:W9.cell? ⟨w.heap.size+1,3,none⟩=some (.slice B F C):=px _ _ 3 _ _ _ T
   have ap:Own1 E.heap.size 3 W9 (.slice L (Ir.items f).length N) ((ji f).map (Value.int .i64)):=m.keep fun k H=>by obtain⟨t1,t2,a0,t3⟩:=m.typed H;exact ad k (by omega) (fun e=>by rw[e,O]at t3;cases t3)
   have ao:Own1 E.heap.size 3 W9 (.slice J (Ir.items f).length M) ((ei f).map (Value.int .i64)):=z.keep fun k H=>by obtain⟨t1,t2,a0,t3⟩:=z.typed H;exact ad k (by omega) (fun e=>by rw[e,O]at t3;cases t3)
   refine⟨.agg #[.int .i64 f.params.length,.slice L (Ir.items f).length N,.slice J (Ir.items f).length M,.slice B F C],(by clear t hx aF ad aQ aq T ap ao O Z;simp[results,results72,go_sem,s0,s1,s2,s3]),_,_,_,rfl,?_,?_,?_,?_⟩
   ·exact ap.ints (by simp[ji];omega)
   ·exact ao.ints (by simp[ei];omega)
   ·refine az.out W9 fun k h1 h2 h3=>?_;exact(ad k h3 (by omega)).trans (hF.2 k h1 h2)
   ·exact hB.trans (aF.trans aq)
  case stop =>
   rintro D c d g _ _ h _;exact h.elim
