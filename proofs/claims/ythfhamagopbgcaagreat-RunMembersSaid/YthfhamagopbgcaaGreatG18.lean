/- Quiet regions inside a round; isDefined; ir.Validate is Ref.validate; Count, valued, Kind, known; the law IrValidates walked. -/
import Derived.Test.YthfhamagopbgcaaGreatG16
import Derived.Sort.QuietIn
import Derived.Test.YthfhamagopbgcaaGreatG13
import Derived.IntWalk
import Derived.Test.YthfhamagopbgcaaGreatG17
namespace Go.Proofs.YthfhamagopbgcaaGreat
open Go.RowKit Go.Shelf

/-- No operation is a 'defer'. -/
def noDefer (ops:Array Oper):Bool:=ops.toList.all fun o=>match o.op with | .defer _=>false | _=>true
theorem noDefer_at {ops:Array Oper} (h:noDefer ops=true) {i:Nat} {o:Oper} (hi:ops[i]?=some o):∀ c,o.op≠.defer c:=by
 intro c e
 have hm:o ∈ ops.toList:=by
  have:=Array.mem_of_getElem? hi
  simpa using this
 have:=List.all_eq_true.1 h o hm
 rw [e] at this
 cases this

section
variable {F:Fence} {n:Nat} {P:Program} {ops:Array Oper} {C:World→Prop}
theorem wpIn_quietR {o:Oper} {a:Act} {K:Act→Prop} {K':Act→World→Prop} {Q':Exit→Act→World→Prop} {w:World} (hnd:∀ c,o.op≠.defer c) (hw:C w) (h:∀ a w',C w'→K a→K' a w')
  (ha:o.askedIn F P a C) (hh:o.quietIn F n P a C K):o.wpIn F n P a w K' Q':=by
 obtain ⟨v,h1,h2⟩:=hh
 have h3:=h1 w hw
 unfold Oper.quietAtIn at h3
 refine ⟨ha w hw,?_⟩
 rw [Oper.semAt_plain F _ _ hnd]
 revert h3
 generalize (execOp a.eval o).run P w=r
 intro h3
 cases r with
 | halt x w'=>exact h3.elim
 | ok x w' =>
  cases x with
  | value u=>obtain ⟨rfl,rfl⟩:=h3;exact h _ _ hw h2
  | skip=>obtain ⟨rfl,rfl⟩:=h3;exact h _ _ hw h2
  | enter f args =>
   obtain ⟨rfl,hd,hc⟩:=h3
   exact ⟨hd,hc.mono fun e w'' ⟨he,hw''⟩=>by subst he;exact h _ _ hw'' h2⟩
  | _=>exact h3.elim
theorem wpAnyIn_quietR {Q:Act→Prop} {Q':Exit→Act→World→Prop} (hnd:noDefer ops=true) (hQ:∀ a w,C w→Q a→Q' .normal a w):∀ (fuel:Nat) (listed:Array Bool) (a:Act) (w:World),C w →
  wpAnyQIn F n P .any ops C Q fuel listed a→wpAnyIn F n P .any ops Q' fuel listed a w
 | 0,_,_,_,hw,h=>⟨h.1,hQ _ _ hw h.2⟩
 | fuel+1,listed,a,w,hw,h=>by
  refine ⟨fun h0=>hQ _ _ hw (h.1 h0),fun i hi=>?_⟩
  have hq:=h.2 i hi
  have ih:=fun a' w' hw'=>wpAnyIn_quietR hnd hQ fuel (listed.setIfInBounds i true) a' w' hw'
  unfold qOpIn at hq
  unfold wpOpIn
  cases ho:ops[i]? with
  | none=>rw [ho] at hq;exact ih _ _ hw hq
  | some o =>
   rw [ho] at hq
   obtain ⟨ha,hq⟩:=hq
   dsimp only
   split
   ·next hwt=>rw [if_pos hwt] at hq;exact wpIn_quietR (noDefer_at hnd ho) hw (fun a' w' hw' hk=>ih a' w' hw' hk) ha hq
   ·next hwt=>rw [if_neg hwt] at hq;exact ⟨ha w hw,ih _ _ hw hq⟩
/-- ONE WALK IN THE ORDER OF THE TEXT, whatever the round. -/
theorem region_quietR {id:Nat} {Q:Exit→Act→World→Prop} {a:Act} {w:World} {l:List Oper} (hnd:noDefer l.toArray=true) (hm:P.follows .mixedOrders=true) (hB:Region.lexB .any l.toArray=true)
  (h:wpQuietIn F n P l.toArray (fun w'=>∃ n,w'=w.drewN n) (fun a'=>∀ w',(∃ n,w'=w.drewN n)→Q .normal a' w') l a):(Code.region id l.toArray true).wpIn F n P Q a w:=by
 simp only [Region.lexB,Bool.and_eq_true] at hB
 refine wpIn_region_any hm (wpAnyIn_quietR (C:=fun w'=>∃ n,w'=w.drewN n) (Q:=fun a'=>∀ w',(∃ n,w'=w.drewN n)→Q .normal a' w') hnd (fun _ w' hw' h=>h w' hw') _ _ _ _ ⟨1,rfl⟩ ?_)
 have:=wpAnyQIn_lex (F:=F) (n:=n) (C:=fun w'=>∃ n,w'=w.drewN n) (md:=.any) hB.1 l 0 (Array.replicate l.toArray.size false) a (by simp) (by simpa using hB.2) h
 simpa using this
/-- A world that has grown from w. -/
structure GrW (w:World) where
 val:World
 gr:Gr w val
/-- ONE WALK IN THE ORDER OF THE TEXT, for operations that yield the same in every world that has grown from this one. -/
theorem region_quietGr {id:Nat} {Q:Exit→Act→World→Prop} {a:Act} {w:World} {l:List Oper} (hnd:noDefer l.toArray=true) (hm:P.follows .mixedOrders=true) (hB:Region.lexB .any l.toArray=true)
  (h:wpQuietIn F n P l.toArray (fun w'=>∃ u:GrW w,w'=u.val) (fun a'=>∀ w',(∃ u:GrW w,w'=u.val)→Q .normal a' w') l a):(Code.region id l.toArray true).wpIn F n P Q a w:=by
 simp only [Region.lexB,Bool.and_eq_true] at hB
 refine wpIn_region_any hm (wpAnyIn_quietR (C:=fun w'=>∃ u:GrW w,w'=u.val) (Q:=fun a'=>∀ w',(∃ u:GrW w,w'=u.val)→Q .normal a' w') hnd (fun _ w' hw' h=>h w' hw') _ _ _ _ ⟨⟨w.drew,(Gr.refl w).drew⟩,rfl⟩ ?_)
 have:=wpAnyQIn_lex (F:=F) (n:=n) (C:=fun w'=>∃ u:GrW w,w'=u.val) (md:=.any) hB.1 l 0 (Array.replicate l.toArray.size false) a (by simp) (by simpa using hB.2) h
 simpa using this
end
theorem grW_calls {F:Fence} {r:Nat} {P:Program} {f:FuncId} {args:Array Value} {w:World} {v:Value} (u:GrW w)
  (h:CallsIn F r P f args u.val fun e w'=>e=.returned v∧Gr u.val w'):CallsIn F r P f args u.val fun e w''=>e=.returned v∧∃ u':GrW w,w''=u'.val :=
 h.mono fun _ w' ⟨he,hm⟩=>⟨he,⟨w',u.gr.trans hm⟩,rfl⟩
/-- A callee that leaves the world alone, met in a region that draws its order, in a round. -/
theorem quiet_sameIn {F:Fence} {r:Nat} {P:Program} {f:FuncId} {args:Array Value} {w:World} {n:Nat} {v:Value}
  (h:CallsIn F r P f args (w.drewN n) fun e w'=>e=.returned v∧w.drewN n=w'):CallsIn F r P f args (w.drewN n) fun e w''=>e=.returned v∧∃ m,w''=w.drewN m :=
 h.mono fun _ _ ⟨he,hm⟩=>⟨he,n,hm.symm⟩
end Go.Proofs.YthfhamagopbgcaaGreat

namespace Go.Proofs.YthfhamagopbgcaaGreat
open Go.RowKit Go.Shelf

attribute [local go_sem] Oper.semAt_some
theorem has_listFrom:∀ (bs:List Bool) (k b:Nat),Ref.has (Ir.listFrom bs k) (b:Int)=(decide (k≤b) && bs.getD (b-k) false)
 | [],k,b=>by simp [Ir.listFrom,Ref.has]
 | x::r,k,b=>by
  have ih:=has_listFrom r (k+1) b
  unfold Ref.has at ih ⊢
  rw [Ir.listFrom]
  rcases Nat.lt_trichotomy b k with h | h | h
  ·have e1:decide (k≤b)=false:=by simp;omega
   have e2:decide (k+1≤b)=false:=by simp;omega
   rw [e2,Bool.false_and] at ih
   rw [e1,Bool.false_and]
   split
   ·rw [List.any_cons,ih];simp;omega
   ·exact ih
  ·subst h
   have e2:decide (b+1≤b)=false:=by simp
   rw [e2,Bool.false_and] at ih
   cases x with
   | true=>simp
   | false=>simp only [Bool.false_eq_true,if_false];rw [ih];simp
  ·have e1:decide (k≤b)=true:=by simp;omega
   have e2:decide (k+1≤b)=true:=by simp;omega
   rw [e2,Bool.true_and] at ih
   rw [e1,Bool.true_and,show b-k=(b-(k+1))+1 by omega,List.getD_cons_succ]
   split
   ·rw [List.any_cons,ih]
    have:decide ((k:Int)=(b:Int))=false:=by simp;omega
    rw [this,Bool.false_or]
   ·exact ih
theorem has_reached (g:List (List Int)) (b:Nat) (h:b<10):Ref.has (Ir.reachedL g) (b:Int)=rb g b:=by
 unfold Ir.reachedL
 rw [has_listFrom]
 simp [h]
theorem kind_range {f:Fn} {v:Int} (h:0≤Ref.kind f v):0≤v∧v<Ref.count f:=by
 unfold Ref.kind at h
 split at h
 ·omega
 ·omega
theorem typed_args {f:Fn} {x:Ins} (h:Ref.typed f x=true):∀ v ∈ x.args,0≤v∧v<Ref.count f:=by
 unfold Ref.typed at h
 simp only [Bool.and_eq_true] at h
 intro v hv
 have:=List.all_eq_true.1 h.1 v hv
 exact kind_range (by simpa using this)

set_option maxRecDepth 100000 in
set_option maxHeartbeats 16000000 in
theorem isDefined_any (v:Value) (f:Fn) (w:World) (hf:FnAt w.heap.size w v f) (hb1:1≤f.blocks.length) (hb10:f.blocks.length≤10) (hit:(Ir.items f).length≤1000000) (hpl:f.params.length≤100000) (hln:Hid (∀ l ∈ f.blocks,l.length≤100000))
  (hA:Hid (∀ l ∈ f.blocks,∀ x ∈ l,Ref.argument f x=true)) (hL:Hid (f.blocks.all Ref.laid=true)) (hT:Hid (∀ l ∈ f.blocks,∀ x ∈ l,Ref.typed f x=true)) :
  Calls Tryz.prog 69 #[v] w fun e w'=>e=.returned (.bool ((Ir.items f).all (Ir.argsOk f (Ref.graph f))))∧Gr w w':=by
 have hv:=graph_gval hA.out hL.out hb1 hb10
 have hne:Hid (∀ l ∈ f.blocks,l≠[]):=fun l hl=>laid_ne (List.all_eq_true.1 hL.out l hl)
 have hf0:=hf
 have HH:Hid (∀ w1,Gr w w1→Calls Tryz.prog 115 #[v] w1 fun e w'=>∃ A1 n1 c1 A2 n2 c2 A3 n3 c3,e=.returned (.agg #[.int .i64 f.params.length,.slice A1 n1 c1,.slice A2 n2 c2,.slice A3 n3 c3])∧Hid (IntsAt w'.heap.size w' (.slice A1 n1 c1) (blks f)∧IntsAt w'.heap.size w' (.slice A2 n2 c2) (places f)∧TabAt w'.heap.size w' (.slice A3 n3 c3) (Ref.graph f))∧Gr w1 w'):=by
  intro w1 q
  refine (homes_any v f w1 (hf.gr q) (by omega) hit hne).mono ?_
  rintro e w' ⟨vb,va,vg,q1,q2,q3,q4,q5⟩
  have r2:=q2
  have r3:=q3
  have r4:=q4
  obtain ⟨A1,c1,rfl,-,-,-⟩:=q2
  obtain ⟨A2,c2,rfl,-,-,-⟩:=q3
  obtain ⟨A3,c3,rfl,-,-,-⟩:=q4
  exact ⟨A1,_,c1,A2,_,c2,A3,_,c3,q1,⟨r2,r3,r4⟩,q5⟩
 have HRE:Hid (∀ w1 u,TabAt w1.heap.size w1 u (Ref.graph f)→Calls Tryz.prog 58 #[u] w1 fun e w'=>∃ A4 n4 c4,e=.returned (.tuple #[.slice A4 n4 c4,.int .i64 0])∧Hid (IntsAt w'.heap.size w' (.slice A4 n4 c4) (Ir.reachedL (Ref.graph f)))∧Gr w1 w'):=by
  intro w1 u h
  refine (Reached_any u (Ref.graph f) w1 h hv).mono ?_
  rintro e w' ⟨vl,q1,q2,q3⟩
  have r2:=q2
  obtain ⟨A4,c4,rfl,-,-,-⟩:=q2
  exact ⟨A4,_,c4,q1,r2,q3⟩
 obtain ⟨vp,vs,vb,rfl,hp,hsl,hb⟩:=hf
 obtain ⟨Ap,cp,rfl,-,-,-⟩:=hp
 obtain ⟨As,cs,rfl,-,-,-⟩:=hsl
 obtain ⟨Ab,cb,rfl,-,hb2,hb3⟩:=hb
 obtain ⟨bb,ob,rfl,hbb,hcells⟩:=hb3 (by omega)
 have HC:=Lib.hid hcells
 obtain ⟨W,hW⟩:∃ W,(w.alloc (.cells #[.slice Ap f.params.length cp,.int .i64 f.ret,.slice As f.slots.length cs,.slice (some ⟨bb,ob,none⟩) f.blocks.length cb] 25)).alloc (.cells #[.bool false] 4)=W:=⟨_,rfl⟩
 have hB0:Gr w W:=by rw [← hW];exact ((Gr.refl w).alloc _).alloc _
 have hWs:W.heap.size=w.heap.size+2:=by rw [← hW];simp
 have g0:Gr (w.alloc (.cells #[.slice Ap f.params.length cp,.int .i64 f.ret,.slice As f.slots.length cs,.slice (some ⟨bb,ob,none⟩) f.blocks.length cb] 25)) W:=by rw [← hW];exact (Gr.refl _).alloc _
 have B0:Hid (∀ w',Gr W w'→w'.cell? ⟨w.heap.size,0,none⟩=some (.slice Ap f.params.length cp)∧w'.cell? ⟨w.heap.size,1,none⟩=some (.int .i64 f.ret)∧w'.cell? ⟨w.heap.size,2,none⟩=some (.slice As f.slots.length cs)∧w'.cell? ⟨w.heap.size,3,none⟩=some (.slice (some ⟨bb,ob,none⟩) f.blocks.length cb)) :=
  fun w' q=>⟨(q.cell _ _ (by omega)).trans (cell_box _ _ 0 g0 rfl),(q.cell _ _ (by omega)).trans (cell_box _ _ 1 g0 rfl),(q.cell _ _ (by omega)).trans (cell_box _ _ 2 g0 rfl),(q.cell _ _ (by omega)).trans (cell_box _ _ 3 g0 rfl)⟩
 have hr0:W.heap[w.heap.size+1]?=some (.cells #[.bool false] 4 (0,0)):=by rw [← hW];exact heap_alloc2_new w _ _
 have R0:Hid (∀ w',Gr W w'→w'.heap[w.heap.size+1]?=some (.cells #[.bool false] 4 (0,0))):=fun w' q=>(q.heap _ (by omega)).trans hr0
 have HCA:Hid (∀ w1,Calls Tryz.prog 64 #[.agg #[.slice Ap f.params.length cp,.int .i64 f.ret,.slice As f.slots.length cs,.slice (some ⟨bb,ob,none⟩) f.blocks.length cb]] w1 fun e w'=>e=.returned (.func (.func 104) #[] #[.pointer (some ⟨w1.heap.size,0,none⟩)])∧w'=w1.alloc (.cells #[.slice Ap f.params.length cp,.int .i64 f.ret,.slice As f.slots.length cs,.slice (some ⟨bb,ob,none⟩) f.blocks.length cb] 25)):=fun w1=>all_in f Ap As _ _ _ _ cp cs cb w1
 have HV:=Lib.hid hv
 refine (callsIn_wide (n:=5)).1 ?_
 refine callsIn_of_wp_marks Tryz.func69 rfl trivial ?_ rfl
 simp only [Tryz.ntmps69,List.size_toArray,List.length_cons,List.length_nil,Nat.reduceAdd,Nat.reduceSub,Array.replicate_succ,Array.replicate_zero,List.push_toArray,List.append_toArray,List.nil_append,List.cons_append]
 refine wpIn_wide.2 ?_
 obtain ⟨k0,k1,k2,k3⟩:=B0.out W (Gr.refl _)
 clear g0 hcells hb3 hv
 go_wp2_with (first
   | (go_at_call 115;refine (HH.out _ hB0).mono ?_;rintro e w1 ⟨A1,n1,c1,A2,n2,c2,A3,n3,c3,rfl,HI,g1⟩)
   | (go_at_call 58;refine (HRE.out _ _ (HI.out.2.2.gr ((Gr.refl _).alloc _))).mono ?_;rintro e w2 ⟨A4,n4,c4,rfl,HR4,g2⟩;have hgv2:Gr W w2:=g1.trans (((Gr.refl _).alloc _).trans g2);have hq:∀ o,(w2.alloc o).cell? ⟨w.heap.size,0,none⟩=some (.slice Ap f.params.length cp):=fun o=>(B0.out _ (hgv2.alloc o)).1;have hq1:∀ o,(w2.alloc o).cell? ⟨w.heap.size,1,none⟩=some (.int .i64 f.ret):=fun o=>(B0.out _ (hgv2.alloc o)).2.1;have hq2:∀ o,(w2.alloc o).cell? ⟨w.heap.size,2,none⟩=some (.slice As f.slots.length cs):=fun o=>(B0.out _ (hgv2.alloc o)).2.2.1;have hq3:∀ o,(w2.alloc o).cell? ⟨w.heap.size,3,none⟩=some (.slice (some ⟨bb,ob,none⟩) f.blocks.length cb):=fun o=>(B0.out _ (hgv2.alloc o)).2.2.2)
   | (go_at_call 64;refine (HCA.out _).mono ?_;rintro e w3 ⟨rfl,rfl⟩))
 obtain ⟨W0,hW0⟩:∃ W0,(w2.alloc (.cells #[.slice A4 n4 c4] 22)).alloc (.cells #[.slice Ap f.params.length cp,.int .i64 f.ret,.slice As f.slots.length cs,.slice (some ⟨bb,ob,none⟩) f.blocks.length cb] 25)=W0:=⟨_,rfl⟩
 have hg20:Gr w2 W0:=by rw [← hW0];exact ((Gr.refl _).alloc _).alloc _
 have hgr0:Gr W W0:=hgv2.trans hg20
 have hgw0:Gr w W0:=hB0.trans hgr0
 have hsz:W0.heap.size≤w2.heap.size+2∧w2.heap.size+2≤W0.heap.size:=by rw [← hW0];simp
 have hbx0:∀ o,W0.cell? ⟨w2.heap.size+1,o,none⟩=(#[.slice Ap f.params.length cp,.int .i64 f.ret,.slice As f.slots.length cs,.slice (some ⟨bb,ob,none⟩) f.blocks.length cb]:Array Value)[o]?:=by
  intro o;rw [← hW0];exact cell_of_row _ _ _ _ _ _ (heap_alloc2_new w2 _ _)
 have hr4:W0.heap[w2.heap.size]?=some (.cells #[.slice A4 n4 c4] 22 (0,0)):=by rw [← hW0];exact heap_alloc2_old w2 _ _
 have hs1:w1.heap.size+1≤w2.heap.size:=by have:=g2.size;simp at this;omega
 have hh1:W0.heap[w1.heap.size]?=some (.cells #[.int .i64 f.params.length,.slice A1 n1 c1,.slice A2 n2 c2,.slice A3 n3 c3] 154 (0,0)):=((g2.trans hg20).heap _ (by simp)).trans (heap_alloc_new w1 _)
 have KP:Hid (∀ w',Gr W0 w'→w'.heap[w2.heap.size]?=some (.cells #[.slice A4 n4 c4] 22 (0,0))∧w'.heap[w1.heap.size]?=some (.cells #[.int .i64 f.params.length,.slice A1 n1 c1,.slice A2 n2 c2,.slice A3 n3 c3] 154 (0,0))) :=
  fun w' q=>⟨(q.heap _ (by omega)).trans hr4,(q.heap _ (by omega)).trans hh1⟩
 have HTH:Hid (∀ (z:Int) (b:Nat) (place:Int) w',Gr W0 w'→0≤z→z<Ref.count f→b<f.blocks.length→rb (Ref.graph f) b=true→Calls Tryz.prog 116 #[.agg #[.int .i64 f.params.length,.slice A1 n1 c1,.slice A2 n2 c2,.slice A3 n3 c3],.int .i64 z,.int .i64 b,.int .i64 place] w' fun e w''=>e=.returned (.bool (Ir.isThere f (Ref.graph f) z b place))∧Gr w' w''):=by
  intro z b place w' q h1 h2 h3 h4
  have q':Gr w1 w':=((Gr.refl _).alloc _).trans (g2.trans (hg20.trans q))
  exact isThere_any f _ _ _ z b place w' (HI.out.1.gr q') (HI.out.2.1.gr q') (HI.out.2.2.gr q') HV.out h1 h2 h3 h4 hpl hit
 have HHAS:Hid (∀ (b:Nat) w',Gr W0 w'→b<10→Calls Tryz.prog 56 #[.slice A4 n4 c4,.int .i64 b] w' fun e w''=>e=.returned (.bool (rb (Ref.graph f) b))∧w'=w''):=by
  intro b w' q h
  rw [← has_reached _ b h]
  exact Contains_any _ _ _ w' (HR4.out.gr (hg20.trans q))
 have hsw:=hB0.size
 have hww:=hgw0.size
 rw [hW0]
 clear hq hq1 hq2 hq3 k0 k1 k2 k3 hr4 hh1
 refine range_all (w:=w) (f:=f) (q:=6) (Bf:=w2.heap.size+1) rfl hf0 hgw0 (by omega) (by omega) (hbx0 0) (hbx0 3) (fun pre Wr=>(∀ it ∈ pre,Ir.argsOk f (Ref.graph f) it=true)∧Gr W0 Wr)
  (fun c pre Wr=>c=.ret∧(∃ it ∈ pre,Ir.argsOk f (Ref.graph f) it=false)∧Below w.heap.size w Wr∧Wr.heap[w.heap.size+1]?=some (.cells #[.bool false] 4 (0,0)))
  (OwnFrom.and (ownFrom_pure _ _) (ownFrom_gr W0)) (fun c=>OwnFrom.and (ownFrom_pure _ _) (OwnFrom.and (ownFrom_pure _ _) (OwnFrom.and (ownFrom_below (Nat.le_refl _) (by omega)) (cells_own _ _ _)))) (fun pre Wr h=>h.2.size) ⟨fun it h=>by simp at h,Gr.refl _⟩ ?hassign ?hbody ?hdone ?hstop
 case hassign =>
  intro l it aa ta ca ct Wr K hK
  simp only [List.setIfInBounds_toArray,List.set_cons_succ,List.set_cons_zero,encV,rowV] at hK ⊢
  gi_wp2
  exact hK
 case hbody =>
  rintro l pre it aa ta ca ct Wr Bx ⟨hok,hg0⟩ hva hvt hmem hlt hBx hrow
  simp only [List.setIfInBounds_toArray,List.set_cons_succ,List.set_cons_zero,encV]
  obtain ⟨lb,e1,e2⟩:=items_in f it hmem
  have hml:=List.mem_of_getElem? e1
  have hmx:=List.mem_of_getElem? e2
  have hAx:=argument_to f it.ins (hA.out lb hml it.ins hmx)
  have HTX:=Lib.hid (typed_args (hT.out lb hml it.ins hmx))
  have HTO:=Lib.hid hAx.1
  have HPL:Hid (it.ins.op=28→it.ins.to.length=it.ins.args.length):=hAx.2
  have hbl:it.blk<f.blocks.length:=(List.getElem?_eq_some_iff.1 e1).1
  have HCT:Hid (pre.length<(Ir.items f).length+1):=hlt
  have hgs:=hg0.size
  have HX:Hid (∀ w' o,Gr Wr w'→w'.cell? ⟨Bx,o,none⟩=(rowV it aa ta ca ct)[o]?):=fun w' o q=>(q.cell Bx o (Array.getElem?_eq_some_iff.1 hrow).1).trans (cell_of_row _ _ _ _ _ _ hrow)
  have x0:Wr.cell? ⟨Bx,0,none⟩=some (.int .i64 it.ins.op):=HX.out _ 0 (Gr.refl _)
  have x3:Wr.cell? ⟨Bx,3,none⟩=some (.slice aa it.ins.args.length ca):=HX.out _ 3 (Gr.refl _)
  have x7:Wr.cell? ⟨Bx,7,none⟩=some (.int .i64 it.blk):=HX.out _ 7 (Gr.refl _)
  have hgc:=cell_of_one (KP.out _ hg0).1
  have HHB:=Lib.hid (HHAS.out it.blk Wr hg0 (by omega))
  obtain ⟨rbb,hrb⟩:∃ rbb,rb (Ref.graph f) it.blk=rbb:=⟨_,rfl⟩
  have HRB:=Lib.hid hrb
  rw [hrb] at HHB
  clear e1 e2 hml hmx hAx hmem hlt hrow hrb
  cases rbb with
  | false =>
   have HOK:Hid (Ir.argsOk f (Ref.graph f) it=true):=by show _=_;unfold Ir.argsOk;rw [HRB.out];rfl
   gi_wp2_with (refine ⟨trivial,?_⟩;gi_at_call 56;refine (CallsIn.inRound l (callsIn_wide.2 HHB.out)).mono ?_;rintro e w4 ⟨rfl,rfl⟩)
   refine ⟨(KeepsOthers.refl _).from _,Below.refl _ _,?_,hg0⟩
   intro it' hi'
   rcases List.mem_append.1 hi' with h | h
   ·exact hok it' h
   ·simp at h;subst h;exact HOK.out
  | true =>
   have HOK:Hid (Ir.argsOk f (Ref.graph f) it=Ref.argsFrom f (Ref.graph f) (Ref.reached (Ref.graph f) (-1)) it.blk it.pos it.ins it.ins.args 0):=by show _=_;unfold Ir.argsOk;rw [HRB.out];rfl
   gi_wp2_with (refine ⟨trivial,?_⟩;gi_at_call 56;refine (CallsIn.inRound l (callsIn_wide.2 HHB.out)).mono ?_;rintro e w4 ⟨rfl,rfl⟩)
   obtain ⟨Aa,cca,ea,a1,a2,a3⟩:=hva
   have HVA3:=Lib.hid a3
   simp only [Value.slice.injEq,true_and] at ea
   obtain ⟨ea1,ea2⟩:=ea
   subst ea1;subst ea2
   gi_loopw [7,8,9,30] (fun _ _ _ i wr=>∃ m:Nat,m≤it.ins.args.length∧i=.int .i64 m∧Gr Wr wr∧Hid (Ir.argsOk f (Ref.graph f) it=Ref.argsFrom f (Ref.graph f) (Ref.reached (Ref.graph f) (-1)) it.blk it.pos it.ins (it.ins.args.drop m) m)) (fun _ _ _ i _=>it.ins.args.length-(intOf i).toNat)
   case atStart=>exact ⟨0,Nat.zero_le _,rfl,Gr.refl _,HOK⟩
   case round =>
    obtain ⟨m,hm,rfl,hgr,hrest⟩:=hrel
    obtain ⟨wp,rfl⟩:∃ wp:World,wp=wr:=⟨_,rfl⟩
    clear x0 x3 x7 hgc
    rcases hr:it.ins.args.drop m with _ | ⟨z,r⟩
    ·have hmn:=drop_nil hr hm
     have HE:Hid (Ir.argsOk f (Ref.graph f) it=true):=by show _=_;rw [hrest.out,hr];rfl
     have hge:(it.ins.args.length:Int)≤m:=by omega
     clear hr hrest hmn a3
     gi_wp2
     refine ⟨hgr.keeps.from _,Below.mono hgr (by omega),?_,hg0.trans hgr⟩
     intro it' hi'
     rcases List.mem_append.1 hi' with h | h
     ·exact hok it' h
     ·simp at h;subst h;exact HE.out
    ·obtain ⟨hlt,hz,hr'⟩:=drop_cons hr
     obtain ⟨ba,oa,e3,hba,hca⟩:=HVA3.out (by omega)
     subst e3
     have hzc:=((hgw0.trans (hg0.trans hgr)).cell _ _ hba).trans (hca m z hz)
     have hzr:=HTX.out z (List.mem_of_getElem? hz)
     have hrw:=hg0.trans hgr
     have x0:wp.cell? ⟨Bx,0,none⟩=some (.int .i64 it.ins.op):=HX.out _ 0 hgr
     have HR1:Hid (Ir.argsOk f (Ref.graph f) it=(Ref.argOk f (Ref.graph f) (Ref.reached (Ref.graph f) (-1)) it.blk it.pos it.ins z (it.ins.to.getD m 0) && Ref.argsFrom f (Ref.graph f) (Ref.reached (Ref.graph f) (-1)) it.blk it.pos it.ins r (m+1))):=by show _=_;rw [hrest.out,hr];rfl
     have HR1':Hid (it.ins.args.drop (m+1)=r):=hr'
     have hmlt:(m:Int)<it.ins.args.length:=by omega
     have hbr0:=R0.out _ (hgr0.trans hrw)
     have rc:=cell_of_one hbr0
     have rf:=free_of_one hbr0
     obtain ⟨hz0,hz1⟩:=hzr
     clear hr hz hr' hrest hca a3
     by_cases ho:it.ins.op=28
     ·have ho':(it.ins.op != 28)=false:=by simp [ho]
      have hl2:=HPL.out ho
      obtain ⟨tz,ht⟩:∃ tz,it.ins.to[m]?=some tz:=⟨it.ins.to[m]'(by omega),List.getElem?_eq_getElem (by omega)⟩
      have htr:=HTO.out tz (List.mem_of_getElem? ht)
      obtain ⟨tn,rfl⟩:=Int.eq_ofNat_of_zero_le htr.1
      have htl:tn<f.blocks.length:=by omega
      have hvt':=hvt
      obtain ⟨At,cct,et,t1,t2,t3⟩:=hvt
      simp only [Value.slice.injEq,true_and] at et
      obtain ⟨et1,et2⟩:=et
      subst et1;subst et2
      obtain ⟨bt,ot,e4,hbt,hct⟩:=t3 (by omega)
      subst e4
      have htc:=((hgw0.trans hrw).cell _ _ hbt).trans (hct m (tn:Int) ht)
      have x5:wp.cell? ⟨Bx,5,none⟩=some (.slice (some ⟨bt,ot,none⟩) it.ins.to.length ct):=HX.out _ 5 hgr
      have htm:(m:Int)<it.ins.to.length:=by omega
      obtain ⟨lt,hlt'⟩:∃ lt,f.blocks[tn]?=some lt:=⟨f.blocks[tn],List.getElem?_eq_getElem htl⟩
      obtain ⟨u,hu,hul⟩:=HC.out tn lt hlt'
      obtain ⟨Al,cl,rfl,p1,p2,-⟩:=hul
      have huc:∀ n,(wp.drewN n).cell? ⟨bb,ob+tn,none⟩=some (.slice Al lt.length cl):=fun n=>((hgw0.trans (hrw.trans ((Gr.refl _).drewN n))).cell _ _ hbb).trans hu
      have huc0:=((hgw0.trans hrw).cell _ _ hbb).trans hu
      obtain ⟨c0,c1',c2',c3'⟩:=B0.out _ (hgr0.trans hrw)
      have htz:(tn:Int)<f.blocks.length:=by omega
      have hA1:=KP.out _ hrw
      have y0:=cell_of_one hA1.1
      have h0:=cell_of_row _ _ 0 _ _ _ hA1.2
      have h1:=cell_of_row _ _ 1 _ _ _ hA1.2
      have h2:=cell_of_row _ _ 2 _ _ _ hA1.2
      have h3:=cell_of_row _ _ 3 _ _ _ hA1.2
      have HGT:Hid (it.ins.to.getD m 0=(tn:Int)):=by show _=_;simp [List.getD,ht]
      have HAO:Hid (Ref.argOk f (Ref.graph f) (Ref.reached (Ref.graph f) (-1)) it.blk it.pos it.ins z (it.ins.to.getD m 0)=(!rb (Ref.graph f) tn || Ir.isThere f (Ref.graph f) z tn lt.length)):=by
       show _=_
       rw [HGT.out,isThere_end f _ z tn lt hlt' hz1]
       unfold Ref.argOk rb
       rw [if_pos ho]
       simp
      have HHB2:Hid (∀ w',Gr wp w'→Calls Tryz.prog 56 #[.slice A4 n4 c4,.int .i64 tn] w' fun e w''=>e=.returned (.bool (rb (Ref.graph f) tn))∧w'=w''):=fun w' q=>HHAS.out tn w' (hrw.trans q) (by omega)
      have HTH2:Hid (rb (Ref.graph f) tn=true→∀ w',Gr wp w'→Calls Tryz.prog 116 #[.agg #[.int .i64 f.params.length,.slice A1 n1 c1,.slice A2 n2 c2,.slice A3 n3 c3],.int .i64 z,.int .i64 tn,.int .i64 lt.length] w' fun e w''=>e=.returned (.bool (Ir.isThere f (Ref.graph f) z tn lt.length))∧Gr w' w'') :=
       fun hrb w' q=>HTH.out z tn _ w' (hrw.trans q) hz0 hz1 htl hrb
      obtain ⟨rt,hrt⟩:∃ rt,rb (Ref.graph f) tn=rt:=⟨_,rfl⟩
      obtain ⟨th,hth⟩:∃ th,Ir.isThere f (Ref.graph f) z tn lt.length=th:=⟨_,rfl⟩
      rw [hrt] at HAO HHB2 HTH2
      rw [hth] at HAO HTH2
      have hsl:lt.length≤100000:=hln.out lt (List.mem_of_getElem? hlt')
      clear ho hl2 ht htr hct t3 hlt' hu hA1 hrt hth hvt'
      cases rt with
      | false =>
       gi_wp2
       refine region_quietR (by kernel_rfl) (by kernel_rfl) (by kernel_rfl) ?_
       repeat (first
         | gi_big_quiet_step (fail)
         | (refine wpQuietIn_step (fun _ _ _ _=>trivial) (fun K hK=>?_)
            go_simp
            first
              | (refine hK _ ?_;clear hK K)
              | (apply Exists.intro
                 refine ⟨fun _=>?_,hK _ ?_⟩
                 (gi_at_call 56;exact quiet_sameIn (CallsIn.inRound l (callsIn_wide.2 (HHB2.out _ ((Gr.refl wp).drewN _)))))
                 clear hK K)))
       refine wpQuietIn_nil ?_
       intro w9 hw9
       obtain ⟨nq,rfl⟩:=hw9
       gi_wp2
       go_roundw
       case rel=>exact ⟨m+1,by omega,by go_num,hgr.drewN _,by (show _=_;rw [HR1.out,HAO.out,HR1'.out];simp)⟩
       case measure=>simp [intOf];omega
      | true =>
       have HTH3:=Lib.hid (HTH2.out rfl)
       have U0:∀ u:GrW wp,u.val.cell? ⟨w2.heap.size,0,none⟩=some (.slice A4 n4 c4):=fun u=>cell_of_one (KP.out _ (hrw.trans u.gr)).1
       have U1:∀ u:GrW wp,u.val.cell? ⟨w1.heap.size,0,none⟩=some (.int .i64 f.params.length):=fun u=>cell_of_row _ _ 0 _ _ _ (KP.out _ (hrw.trans u.gr)).2
       have U2:∀ u:GrW wp,u.val.cell? ⟨w1.heap.size,1,none⟩=some (.slice A1 n1 c1):=fun u=>cell_of_row _ _ 1 _ _ _ (KP.out _ (hrw.trans u.gr)).2
       have U3:∀ u:GrW wp,u.val.cell? ⟨w1.heap.size,2,none⟩=some (.slice A2 n2 c2):=fun u=>cell_of_row _ _ 2 _ _ _ (KP.out _ (hrw.trans u.gr)).2
       have U4:∀ u:GrW wp,u.val.cell? ⟨w1.heap.size,3,none⟩=some (.slice A3 n3 c3):=fun u=>cell_of_row _ _ 3 _ _ _ (KP.out _ (hrw.trans u.gr)).2
       have U5:∀ u:GrW wp,u.val.cell? ⟨w.heap.size,3,none⟩=some (.slice (some ⟨bb,ob,none⟩) f.blocks.length cb):=fun u=>(B0.out _ (hgr0.trans (hrw.trans u.gr))).2.2.2
       have U6:∀ u:GrW wp,u.val.cell? ⟨bb,ob+tn,none⟩=some (.slice Al lt.length cl):=fun u=>(u.gr.cell _ _ (by have:=hgw0.size;have:=hrw.size;omega)).trans huc0
       have UR:Hid (∀ u:GrW wp,u.val.heap[w.heap.size+1]?=some (.cells #[.bool false] 4 (0,0))):=fun u=>R0.out _ (hgr0.trans (hrw.trans u.gr))
       clear c0 c1' c2' c3' y0 h0 h1 h2 h3 huc huc0 rc rf hbr0
       gi_wp2
       refine region_quietGr (by kernel_rfl) (by kernel_rfl) (by kernel_rfl) ?_
       repeat
        (refine wpQuietIn_step (fun _ _ _ _=>trivial) (fun K hK=>?_)
         go_simp
         first
           | (refine hK _ ?_;clear hK K)
           | (refine ⟨_,fun _=>rfl,hK _ ?_⟩;clear hK K)
           | (apply Exists.intro
              refine ⟨fun u=>?_,hK _ ?_⟩
              (first
                | (gi_at_call 56;exact grW_calls u (CallsIn.inRound l (callsIn_wide.2 ((HHB2.out _ u.gr).mono fun _ _ h=>⟨h.1,h.2 ▸ Gr.refl _⟩))))
                | (gi_at_call 116;exact grW_calls u (CallsIn.inRound l (callsIn_wide.2 (HTH3.out _ u.gr)))))
              clear hK K))
       refine wpQuietIn_nil ?_
       intro w9 hw9
       obtain ⟨u9,rfl⟩:=hw9
       have hbr6:=UR.out u9
       have rc6:=cell_of_one hbr6
       have rf6:=free_of_one hbr6
       have g6:=u9.gr
       clear U0 U1 U2 U3 U4 U5 U6
       cases th
       ·gi_wp2
        refine ⟨((hgr.trans g6).keeps.trans (KeepsOthers.setCell _ _ _)).from _,rfl,⟨it,by simp,by rw [HR1.out,HAO.out];rfl⟩,?_,?_⟩
        ·exact Below.setCell (hgw0.trans (hrw.trans g6)) (p:=⟨w.heap.size+1,0,none⟩) (by show w.heap.size≤w.heap.size+1;omega) _
        ·exact heap_setCell_at (i:=0) (.bool false) hbr6
       ·gi_wp2
        go_roundw
        case rel=>exact ⟨m+1,by omega,by go_num,hgr.trans g6,by (show _=_;rw [HR1.out,HAO.out,HR1'.out];simp)⟩
        case measure=>simp [intOf];omega
     ·have ho':(it.ins.op != 28)=true:=by simp [ho]
      have x7:wp.cell? ⟨Bx,7,none⟩=some (.int .i64 it.blk):=HX.out _ 7 hgr
      have x8:wp.cell? ⟨Bx,8,none⟩=some (.int .i64 it.pos):=HX.out _ 8 hgr
      have hA1:=KP.out _ hrw
      have h0:=cell_of_row _ _ 0 _ _ _ hA1.2
      have h1:=cell_of_row _ _ 1 _ _ _ hA1.2
      have h2:=cell_of_row _ _ 2 _ _ _ hA1.2
      have h3:=cell_of_row _ _ 3 _ _ _ hA1.2
      have HAO:Hid (Ref.argOk f (Ref.graph f) (Ref.reached (Ref.graph f) (-1)) it.blk it.pos it.ins z (it.ins.to.getD m 0)=Ir.isThere f (Ref.graph f) z it.blk it.pos):=by
       show _=_
       rw [isThere_pos f _ z _ _ hz1 (by omega)]
       unfold Ref.argOk
       rw [if_neg ho]
      have HTH2:=Lib.hid (HTH.out z it.blk it.pos wp hrw hz0 hz1 hbl HRB.out)
      obtain ⟨th,hth⟩:∃ th,Ir.isThere f (Ref.graph f) z it.blk it.pos=th:=⟨_,rfl⟩
      rw [hth] at HAO HTH2
      clear ho hth hA1
      cases th with
      | false =>
       gi_wp2_with (refine ⟨trivial,?_⟩;gi_at_call 116;refine (CallsIn.inRound l (callsIn_wide.2 HTH2.out)).mono ?_;rintro e w5 ⟨rfl,g5⟩;have hbr5:=R0.out _ (hgr0.trans (hrw.trans g5));have rc5:=cell_of_one hbr5;have rf5:=free_of_one hbr5)
       refine ⟨((hgr.trans g5).keeps.trans (KeepsOthers.setCell _ _ _)).from _,rfl,⟨it,by simp,by rw [HR1.out,HAO.out];rfl⟩,?_,?_⟩
       ·exact Below.setCell (hgw0.trans (hrw.trans g5)) (p:=⟨w.heap.size+1,0,none⟩) (by show w.heap.size≤w.heap.size+1;omega) _
       ·exact heap_setCell_at (i:=0) (.bool false) hbr5
      | true =>
       gi_wp2_with (refine ⟨trivial,?_⟩;gi_at_call 116;refine (CallsIn.inRound l (callsIn_wide.2 HTH2.out)).mono ?_;rintro e w5 ⟨rfl,g5⟩)
       go_roundw
       case rel=>exact ⟨m+1,by omega,by go_num,hgr.trans g5,by (show _=_;rw [HR1.out,HAO.out,HR1'.out];simp)⟩
       case measure=>simp [intOf];omega
 case hdone =>
  rintro D Wr hD ⟨hok,hg0⟩ hK
  have hr6:=R0.out _ (hgr0.trans hg0)
  have rc6:=cell_of_one hr6
  have rf6:=free_of_one hr6
  have HT1:Hid ((Ir.items f).all (Ir.argsOk f (Ref.graph f))=true):=List.all_eq_true.2 hok
  have HK:=Lib.hid hK
  clear hok hK
  go_wp2
  refine retB (w0:=w) (Br:=w.heap.size+1) (b:=true) (t:=2) rfl ((KeepsOthers.setCell _ _ _).same D _ HK.out rfl) rfl rfl (heap_setCell_at (i:=0) (.bool true) hr6) (Below.setCell (hgw0.trans hg0) (p:=⟨w.heap.size+1,0,none⟩) (by show w.heap.size≤w.heap.size+1;omega) _) (by omega) ?_
  exact fun w' g=>⟨ret_bool (by rw [HT1.out]),g⟩
 case hstop =>
  rintro D c pre Wr hD hpre ⟨rfl,⟨it,hm,hno⟩,hB,hbr⟩ hK
  have HF:Hid ((Ir.items f).all (Ir.argsOk f (Ref.graph f))=false):=List.all_eq_false.2 ⟨it,hpre.subset hm,by simp [hno]⟩
  have HK:=Lib.hid hK
  clear hK hm hno
  go_wp2
  refine retB (w0:=w) (Br:=w.heap.size+1) (b:=false) (t:=2) rfl HK.out rfl rfl hbr hB (by omega) ?_
  exact fun w' g=>⟨ret_bool (by rw [HF.out]),g⟩
end Go.Proofs.YthfhamagopbgcaaGreat

namespace Go.Proofs.YthfhamagopbgcaaGreat
open Go.RowKit Go.Shelf

attribute [local go_sem] Oper.semAt_some

theorem results_err (fn:Func) (tmps:Array Value) (t:Nat) (w:World) (Br:Nat) (b:Int) (h:fn.results=#[.cell t 32]) (ht:tmps[t]?.getD undef=.pointer (some ⟨Br,0,none⟩)) (hc:w.cell? ⟨Br,0,none⟩=some (.int .i64 b)) :
  (results fn tmps).run Tryz.prog w=.ok (.int .i64 b) w:=by simp [results,h,ht,go_sem,hc]
theorem retE1 {fn:Func} {R:Ending→World→Prop} {a:Act} {w w0:World} {D Br t:Nat} {b:Int} (hd:a.defers=[{ target:=.collected D,args:=#[] }]) (hK:w.heap[D]?=some (.deferred (some []))) (hf:fn.results=#[.cell t 32]) (ht:a.tmps[t]?.getD undef=.pointer (some ⟨Br,0,none⟩))
  (hb:w.heap[Br]?=some (.cells #[.int .i64 b] 32 (0,0))) (hw:Below w0.heap.size w0 w) (hD:w0.heap.size≤D) (hR:∀ w',Gr w0 w'→R (.returned (.int .i64 b)) w'):bodyPostM Fence.wide 5 Tryz.prog fn R .ret a w:=by
 have hne:Br≠D:=fun e=>by rw [e,hK] at hb;cases hb
 have hb9:(w.putObj D (.deferred none)).heap[Br]?=some (.cells #[.int .i64 b] 32 (0,0)):=(World.putObj_heap_other hne).trans hb
 refine retD hd hK (results_err fn a.tmps t _ Br b hf ht (cell_of_one hb9)) (hR _ ?_)
 exact Below.trans hw (belowK_b (w:=w0) (Nat.le_refl _) w D _ _ hD hK rfl rfl)
theorem retE2 {fn:Func} {R:Ending→World→Prop} {a:Act} {w w0:World} {D D2 Br t:Nat} {b:Int} (hd:a.defers=[{ target:=.collected D2,args:=#[] },{ target:=.collected D,args:=#[] }]) (hK2:w.heap[D2]?=some (.deferred (some []))) (hK:w.heap[D]?=some (.deferred (some []))) (hDD:D≠D2) (hf:fn.results=#[.cell t 32]) (ht:a.tmps[t]?.getD undef=.pointer (some ⟨Br,0,none⟩))
  (hb:w.heap[Br]?=some (.cells #[.int .i64 b] 32 (0,0))) (hw:Below w0.heap.size w0 w) (hD:w0.heap.size≤D) (hD2:w0.heap.size≤D2) (hR:∀ w',Gr w0 w'→R (.returned (.int .i64 b)) w'):bodyPostM Fence.wide 5 Tryz.prog fn R .ret a w:=by
 have hne:Br≠D:=fun e=>by rw [e,hK] at hb;cases hb
 have hne2:Br≠D2:=fun e=>by rw [e,hK2] at hb;cases hb
 have hK':(w.putObj D2 (.deferred none)).heap[D]?=some (.deferred (some [])):=(World.putObj_heap_other hDD).trans hK
 have hb9:((w.putObj D2 (.deferred none)).putObj D (.deferred none)).heap[Br]?=some (.cells #[.int .i64 b] 32 (0,0)):=(World.putObj_heap_other hne).trans ((World.putObj_heap_other hne2).trans hb)
 show LeavesInM Fence.wide 5 Tryz.prog fn a.tmps R a.defers .returning w
 rw [hd]
 refine leavesD hK2 (leavesD hK' (leaves0 (results_err fn a.tmps t _ Br b hf ht (cell_of_one hb9)) (hR _ ?_)))
 exact Below.trans (Below.trans hw (belowK_b (w:=w0) (Nat.le_refl _) w D2 _ _ hD2 hK2 rfl rfl)) (belowK_b (w:=w0) (Nat.le_refl _) (w.putObj D2 (.deferred none)) D _ _ hD hK' rfl rfl)

theorem arg_lens {f:Fn} {x:Ins} (h:Ref.argument f x=true):(Ir.classOf x.op=3→2≤x.args.length)∧(Ir.classOf x.op=4→3≤x.args.length)∧(Ir.classOf x.op=5→1≤x.args.length)∧(Ir.classOf x.op=6→1≤x.args.length)∧(Ir.classOf x.op=11→2≤x.args.length)∧(Ir.classOf x.op=12→1≤x.args.length)∧(Ir.classOf x.op=13→2≤x.args.length)∧(Ir.classOf x.op=16→1≤x.args.length):=by
 obtain ⟨h1,h2⟩:=arg_len h
 by_cases ho:x.op<0∨32<x.op
 ·rw [shape_out f x ho] at h2;cases h2
 rcases (by omega:x.op=0∨(1≤x.op∧x.op≤13)∨x.op=14∨x.op=15∨x.op=16∨x.op=17∨x.op=18∨x.op=19∨x.op=20∨x.op=21∨x.op=22∨x.op=23∨x.op=24∨x.op=25∨x.op=26∨x.op=27∨x.op=28∨x.op=29∨x.op=30∨x.op=31∨x.op=32) with h | h | h | h | h | h | h | h | h | h | h | h | h | h | h | h | h | h | h | h | h
 case inr.inl =>
  have hc:Ir.classOf x.op=2:=by
   rcases (by omega:x.op=1∨x.op=2∨x.op=3∨x.op=4∨x.op=5∨x.op=6∨x.op=7∨x.op=8∨x.op=9∨x.op=10∨x.op=11∨x.op=12∨x.op=13) with e | e | e | e | e | e | e | e | e | e | e | e | e
   all_goals (rw [e];rfl)
  rw [hc];simp
 all_goals (rw [h];simp [Ref.shape,h] at h1;simp [Ir.classOf];try omega)

theorem validate_small {f:Fn} (h:¬ (3<f.params.length∨2<f.slots.length∨f.blocks.length<1∨10<f.blocks.length)) (ht:¬ 40<Ref.total f.blocks) :
  Ref.validate f=if Ir.isHead f=false then 1 else if f.blocks.all (fun l=>l.all (Ref.argument f))=false then 1 else if Ref.rules f=false then 7 else if f.blocks.all (fun l=>l.all (Ref.typed f))=false then 6 else if Ref.stated f=false then 9 else 0:=by
 unfold Ref.validate
 rw [if_neg h,if_neg ht]
 unfold Ir.isHead
 by_cases h1:f.ret<0∨32<f.ret
 ·rw [if_pos h1,if_pos]
  rcases h1 with h1 | h1 <;> simp <;> omega
 ·rw [if_neg h1]
  have e1:decide (0≤f.ret)=true:=by simp;omega
  have e2:decide (f.ret≤32)=true:=by simp;omega
  rw [e1,e2]
  cases f.params.all Ref.isWidth <;> cases f.slots.all Ref.isSlot <;> simp

set_option maxRecDepth 100000 in
set_option maxHeartbeats 16000000 in
theorem ival_any (v:Value) (f:Fn) (w:World) (hf:FnAt w.heap.size w v f) (hs:f.blocks.length≤100000) (hln:Hid (∀ l ∈ f.blocks,l.length≤100000)) (hwf:Hid (∀ l ∈ f.blocks,∀ x ∈ l,WfI x)) (hfl:Hid (∀ l ∈ f.blocks,∀ x ∈ l,-9223372036854775808≤x.flags∧x.flags≤9223372036854775807)) :
  Calls Tryz.prog 38 #[v] w fun e w'=>e=.returned (.int .i64 (Ref.validate f))∧Gr w w':=by
 have hf0:=hf
 have HSZ:Hid (∀ w1,Gr w w1→Calls Tryz.prog 62 #[v] w1 fun e w'=>e=.returned (.int .i64 (Ref.total f.blocks))∧Gr w1 w'):=fun w1 q=>size_any v f w1 (hf.gr q) hs
 have HHD:Hid (∀ w1,Gr w w1→Calls Tryz.prog 63 #[v] w1 fun e w'=>e=.returned (.bool (Ir.isHead f))∧Gr w1 w'):=fun w1 q=>isHead_any v f w1 (hf.gr q)
 obtain ⟨vp,vs,vb,rfl,hp,hsl,hb⟩:=hf
 obtain ⟨Ap,cp,rfl,hp1,hp2,-⟩:=hp
 obtain ⟨As,cs,rfl,hs1,hs2,-⟩:=hsl
 obtain ⟨Ab,cb,rfl,hb1,hb2,-⟩:=hb
 obtain ⟨W,hW⟩:∃ W,(w.alloc (.cells #[.slice Ap f.params.length cp,.int .i64 f.ret,.slice As f.slots.length cs,.slice Ab f.blocks.length cb] 25)).alloc (.cells #[.int .i64 0] 32)=W:=⟨_,rfl⟩
 have hB0:Gr w W:=by rw [← hW];exact ((Gr.refl w).alloc _).alloc _
 have hWs:W.heap.size=w.heap.size+2:=by rw [← hW];simp
 have g0:Gr (w.alloc (.cells #[.slice Ap f.params.length cp,.int .i64 f.ret,.slice As f.slots.length cs,.slice Ab f.blocks.length cb] 25)) W:=by rw [← hW];exact (Gr.refl _).alloc _
 have B0:Hid (∀ w',Gr W w'→w'.cell? ⟨w.heap.size,0,none⟩=some (.slice Ap f.params.length cp)∧w'.cell? ⟨w.heap.size,1,none⟩=some (.int .i64 f.ret)∧w'.cell? ⟨w.heap.size,2,none⟩=some (.slice As f.slots.length cs)∧w'.cell? ⟨w.heap.size,3,none⟩=some (.slice Ab f.blocks.length cb)) :=
  fun w' q=>⟨(q.cell _ _ (by omega)).trans (cell_box _ _ 0 g0 rfl),(q.cell _ _ (by omega)).trans (cell_box _ _ 1 g0 rfl),(q.cell _ _ (by omega)).trans (cell_box _ _ 2 g0 rfl),(q.cell _ _ (by omega)).trans (cell_box _ _ 3 g0 rfl)⟩
 have hr0:W.heap[w.heap.size+1]?=some (.cells #[.int .i64 0] 32 (0,0)):=by rw [← hW];exact heap_alloc2_new w _ _
 have R0:Hid (∀ w',Gr W w'→w'.heap[w.heap.size+1]?=some (.cells #[.int .i64 0] 32 (0,0))):=fun w' q=>(q.heap _ (by omega)).trans hr0
 have HCA:Hid (∀ w1,Calls Tryz.prog 64 #[.agg #[.slice Ap f.params.length cp,.int .i64 f.ret,.slice As f.slots.length cs,.slice Ab f.blocks.length cb]] w1 fun e w'=>e=.returned (.func (.func 104) #[] #[.pointer (some ⟨w1.heap.size,0,none⟩)])∧w'=w1.alloc (.cells #[.slice Ap f.params.length cp,.int .i64 f.ret,.slice As f.slots.length cs,.slice Ab f.blocks.length cb] 25)):=fun w1=>all_in f Ap As Ab _ _ _ cp cs cb w1
 refine (callsIn_wide (n:=5)).1 ?_
 refine callsIn_of_wp_marks Tryz.func38 rfl trivial ?_ rfl
 simp only [Tryz.ntmps38,List.size_toArray,List.length_cons,List.length_nil,Nat.reduceAdd,Nat.reduceSub,Array.replicate_succ,Array.replicate_zero,List.push_toArray,List.append_toArray,List.nil_append,List.cons_append]
 refine wpIn_wide.2 ?_
 obtain ⟨k0,k1,k2,k3⟩:=B0.out W (Gr.refl _)
 have rc:=cell_of_one hr0
 have rf:=free_of_one hr0
 have hww:=hB0.size
 clear g0
 by_cases hbig:3<f.params.length∨2<f.slots.length∨f.blocks.length<1∨10<f.blocks.length
 ·have HV:Hid (Ref.validate f=3):=by show _=_;unfold Ref.validate;rw [if_pos hbig]
  have HF:Hid (∀ w',(W.setCell ⟨w.heap.size+1,0,none⟩ (.int .i64 3))=w'→w'.cell? ⟨w.heap.size+1,0,none⟩=some (.int .i64 3)∧Gr w w'):=by
   rintro w' rfl
   exact ⟨World.cell?_setCell_same' _ _ _ (by rw [rc];rfl),hB0.setCell (by show w.heap.size≤w.heap.size+1;omega) _⟩
  rcases Nat.lt_or_ge 3 f.params.length with a1 | a1
  ·have b1:(3:Int)<f.params.length:=by omega
   clear hbig
   go_wp2
   refine retM rfl (results_err _ _ 2 _ _ 3 rfl rfl (HF.out _ rfl).1) ⟨ret_int (by rw [HV.out]),(HF.out _ rfl).2⟩
  have b1:(f.params.length:Int)≤3:=by omega
  rcases Nat.lt_or_ge 2 f.slots.length with a2 | a2
  ·have b2:(2:Int)<f.slots.length:=by omega
   clear hbig
   go_wp2
   refine retM rfl (results_err _ _ 2 _ _ 3 rfl rfl (HF.out _ rfl).1) ⟨ret_int (by rw [HV.out]),(HF.out _ rfl).2⟩
  have b2:(f.slots.length:Int)≤2:=by omega
  rcases Nat.lt_or_ge f.blocks.length 1 with a3 | a3
  ·have b3:(f.blocks.length:Int)<1:=by omega
   clear hbig
   go_wp2
   refine retM rfl (results_err _ _ 2 _ _ 3 rfl rfl (HF.out _ rfl).1) ⟨ret_int (by rw [HV.out]),(HF.out _ rfl).2⟩
  have b3:(1:Int)≤f.blocks.length:=by omega
  have b4:(10:Int)<f.blocks.length:=by omega
  clear hbig
  go_wp2
  refine retM rfl (results_err _ _ 2 _ _ 3 rfl rfl (HF.out _ rfl).1) ⟨ret_int (by rw [HV.out]),(HF.out _ rfl).2⟩
 have b1:(f.params.length:Int)≤3:=by omega
 have b2:(f.slots.length:Int)≤2:=by omega
 have b3:(1:Int)≤f.blocks.length:=by omega
 have b4:(f.blocks.length:Int)≤10:=by omega
 by_cases ht:40<Ref.total f.blocks
 ·have HV:Hid (Ref.validate f=3):=by show _=_;unfold Ref.validate;rw [if_neg hbig,if_pos ht]
  have ht':(40:Int)<Ref.total f.blocks:=by omega
  clear hbig ht
  go_wp2_with (go_at_call 62;refine (HSZ.out _ hB0).mono ?_;rintro e w1 ⟨rfl,g1⟩;have hr1:=R0.out _ g1;have rc1:=cell_of_one hr1;have rf1:=free_of_one hr1)
  refine retM rfl (results_err _ _ 2 _ _ 3 rfl rfl (World.cell?_setCell_same' _ _ _ (by rw [rc1];rfl))) ⟨ret_int (by rw [HV.out]),(hB0.trans g1).setCell (by show w.heap.size≤w.heap.size+1;omega) _⟩
 have HV:=Lib.hid (validate_small hbig ht)
 have ht':(Ref.total f.blocks:Int)≤40:=by omega
 have hit:(Ir.items f).length≤1000000:=by rw [items_len];omega
 have HB:Hid (1≤f.blocks.length∧f.blocks.length≤10):=⟨by omega,by omega⟩
 clear hbig ht
 obtain ⟨hd,hhd⟩:∃ hd,Ir.isHead f=hd:=⟨_,rfl⟩
 have HHD1:=Lib.hid hhd
 rw [hhd] at HHD HV
 clear hhd
 cases hd with
 | false =>
  go_wp2_with (first | (go_at_call 62;refine (HSZ.out _ hB0).mono ?_;rintro e w1 ⟨rfl,g1⟩;obtain ⟨l0,l1,l2,l3⟩:=B0.out _ g1) | (go_at_call 63;refine (HHD.out _ (hB0.trans g1)).mono ?_;rintro e w2 ⟨rfl,g2⟩;have hr1:=R0.out _ (g1.trans g2);have rc1:=cell_of_one hr1;have rf1:=free_of_one hr1))
  refine retM rfl (results_err _ _ 2 _ _ 1 rfl rfl (World.cell?_setCell_same' _ _ _ (by rw [rc1];rfl))) ⟨ret_int (by rw [HV.out];rfl),(hB0.trans (g1.trans g2)).setCell (by show w.heap.size≤w.heap.size+1;omega) _⟩
 | true =>
  have hret:0≤f.ret:=by
   have:=HHD1.out
   unfold Ir.isHead at this
   simp only [Bool.and_eq_true,decide_eq_true_eq] at this
   exact this.1.1.2
  have HSH:Hid (∀ it ∈ Ir.items f,Ir.isShaped f it.ins=Ref.argument f it.ins):=by
   intro it hm
   obtain ⟨l,e1,e2⟩:=items_in f it hm
   have:=hfl.out l (List.mem_of_getElem? e1) _ (List.mem_of_getElem? e2)
   exact isShaped_eq f it.ins hret this.1 this.2
  have HWI:Hid (∀ it ∈ Ir.items f,WfI it.ins):=by
   intro it hm
   obtain ⟨l,e1,e2⟩:=items_in f it hm
   exact hwf.out l (List.mem_of_getElem? e1) _ (List.mem_of_getElem? e2)
  clear hret
  go_wp2_with (first | (go_at_call 62;refine (HSZ.out _ hB0).mono ?_;rintro e w1 ⟨rfl,g1⟩;obtain ⟨l0,l1,l2,l3⟩:=B0.out _ g1) | (go_at_call 63;refine (HHD.out _ (hB0.trans g1)).mono ?_;rintro e w2 ⟨rfl,g2⟩;obtain ⟨m0,m1,m2,m3⟩:=B0.out _ (g1.trans g2)) | (go_at_call 64;refine (HCA.out _).mono ?_;rintro e w3 ⟨rfl,rfl⟩))
  have hgv2:Gr W w2:=g1.trans g2
  obtain ⟨W0,hW0⟩:∃ W0,w2.alloc (.cells #[.slice Ap f.params.length cp,.int .i64 f.ret,.slice As f.slots.length cs,.slice Ab f.blocks.length cb] 25)=W0:=⟨_,rfl⟩
  have hgr0:Gr W W0:=by rw [← hW0];exact hgv2.alloc _
  have hgw0:Gr w W0:=hB0.trans hgr0
  have hsz:W0.heap.size≤w2.heap.size+1∧w2.heap.size+1≤W0.heap.size:=by rw [← hW0];simp
  have hbx0:∀ o,W0.cell? ⟨w2.heap.size,o,none⟩=(#[.slice Ap f.params.length cp,.int .i64 f.ret,.slice As f.slots.length cs,.slice Ab f.blocks.length cb]:Array Value)[o]?:=by
   intro o;rw [← hW0];exact cell_of_row _ _ _ _ _ _ (heap_alloc_new w2 _)
  have hw0:=hgw0.size
  rw [hW0]
  clear l0 l1 l2 l3 m0 m1 m2 m3 k0 k1 k2 k3 rc rf
  refine range_all (w:=w) (f:=f) (q:=3) (Bf:=w2.heap.size) rfl hf0 hgw0 hs (by omega) (hbx0 0) (hbx0 3) (fun pre Wr=>(∀ it ∈ pre,it ∈ Ir.items f∧Ref.argument f it.ins=true)∧Gr W0 Wr)
   (fun c pre Wr=>c=.ret∧(∃ it ∈ pre,Ref.argument f it.ins=false)∧Below w.heap.size w Wr∧Wr.heap[w.heap.size+1]?=some (.cells #[.int .i64 1] 32 (0,0)))
   (OwnFrom.and (ownFrom_pure _ _) (ownFrom_gr W0)) (fun c=>OwnFrom.and (ownFrom_pure _ _) (OwnFrom.and (ownFrom_pure _ _) (OwnFrom.and (ownFrom_below (Nat.le_refl _) (by omega)) (cells_own _ _ _)))) (fun pre Wr h=>h.2.size) ⟨fun it h=>by simp at h,Gr.refl _⟩ ?hassign ?hbody ?hdone ?hstop
  case hassign =>
   intro l it aa ta ca ct Wr K hK
   simp only [List.setIfInBounds_toArray,List.set_cons_succ,List.set_cons_zero,encV,rowV] at hK ⊢
   gi_wp2
   exact hK
  case hbody =>
   rintro l pre it aa ta ca ct Wr Bx ⟨hok,hg0⟩ hva hvt hmem hlt hBx hrow
   simp only [List.setIfInBounds_toArray,List.set_cons_succ,List.set_cons_zero,encV]
   have hX:∀ o,Wr.cell? ⟨Bx,o,none⟩=(rowV it aa ta ca ct)[o]?:=fun o=>cell_of_row _ _ _ _ _ _ hrow
   have x0:Wr.cell? ⟨Bx,0,none⟩=some (.int .i64 it.ins.op):=hX 0
   have x1:Wr.cell? ⟨Bx,1,none⟩=some (.int .i64 it.ins.width):=hX 1
   have x2:Wr.cell? ⟨Bx,2,none⟩=some (.int .i64 it.ins.flags):=hX 2
   have x3:Wr.cell? ⟨Bx,3,none⟩=some (.slice aa it.ins.args.length ca):=hX 3
   have x4:Wr.cell? ⟨Bx,4,none⟩=some (.int .u32 it.ins.imm):=hX 4
   have x5:Wr.cell? ⟨Bx,5,none⟩=some (.slice ta it.ins.to.length ct):=hX 5
   have hwi:=HWI.out it hmem
   have HC:Hid (Calls Tryz.prog 65 #[.agg #[.slice Ap f.params.length cp,.int .i64 f.ret,.slice As f.slots.length cs,.slice Ab f.blocks.length cb],.agg #[.int .i64 it.ins.op,.int .i64 it.ins.width,.int .i64 it.ins.flags,.slice aa it.ins.args.length ca,.int .u32 it.ins.imm,.slice ta it.ins.to.length ct]] Wr fun e w'=>e=.returned (.bool (Ref.argument f it.ins))∧Gr Wr w'):=by
    rw [← HSH.out it hmem]
    exact isShaped_any f it.ins _ As aa ta Ab cs ca ct cb Wr ⟨hwi.1.1,hwi.1.2,hs2,by have:=hwi.2.2.2;omega⟩ (hvt.gr (hgw0.trans hg0))
   obtain ⟨m0,m1,m2,m3⟩:=B0.out _ (hgr0.trans hg0)
   have HM:Hid (it ∈ Ir.items f):=hmem
   have hgs:=hg0.size
   obtain ⟨ag,hag⟩:∃ ag,Ref.argument f it.ins=ag:=⟨_,rfl⟩
   have HAG:=Lib.hid hag
   rw [hag] at HC
   clear hX hmem hlt hrow hag hwi
   cases ag with
   | false =>
    gi_wp2_with (refine ⟨trivial,?_⟩;gi_at_call 65;refine (CallsIn.inRound l (callsIn_wide.2 HC.out)).mono ?_;rintro e w5 ⟨rfl,g5⟩;have hbr5:=R0.out _ (hgr0.trans (hg0.trans g5));have rc5:=cell_of_one hbr5;have rf5:=free_of_one hbr5)
    refine ⟨(g5.keeps.trans (KeepsOthers.setCell _ _ _)).from _,rfl,⟨it,by simp,HAG.out⟩,?_,?_⟩
    ·exact Below.setCell (hgw0.trans (hg0.trans g5)) (p:=⟨w.heap.size+1,0,none⟩) (by show w.heap.size≤w.heap.size+1;omega) _
    ·exact heap_setCell_at (i:=0) (.int .i64 1) hbr5
   | true =>
    gi_wp2_with (refine ⟨trivial,?_⟩;gi_at_call 65;refine (CallsIn.inRound l (callsIn_wide.2 HC.out)).mono ?_;rintro e w5 ⟨rfl,g5⟩)
    refine ⟨g5.keeps.from _,Below.mono g5 (by omega),?_,hg0.trans g5⟩
    intro it' hi'
    rcases List.mem_append.1 hi' with h | h
    ·exact hok it' h
    ·simp at h;subst h;exact ⟨HM.out,HAG.out⟩
  case hstop =>
   rintro D c pre Wr hD hpre ⟨rfl,⟨it,hm,hno⟩,hB,hbr⟩ hK
   have HF:Hid (f.blocks.all (fun l=>l.all (Ref.argument f))=false):=by
    show _=_
    rw [← items_all]
    exact List.all_eq_false.2 ⟨it,hpre.subset hm,by simp [hno]⟩
   have HK:=Lib.hid hK
   clear hK hm hno
   go_wp2
   refine retE1 (w0:=w) (Br:=w.heap.size+1) (b:=1) (t:=2) rfl HK.out rfl rfl hbr hB (by omega) ?_
   exact fun w' g=>⟨ret_int (by rw [HV.out,HF.out];rfl),g⟩
  case hdone =>
   rintro D Wr hD ⟨hok,hg0⟩ hK
   have HALL:Hid (f.blocks.all (fun l=>l.all (Ref.argument f))=true):=by
    show _=_
    rw [← items_all]
    exact List.all_eq_true.2 fun it h=>(hok it h).2
   have HA:Hid (∀ l ∈ f.blocks,∀ x ∈ l,Ref.argument f x=true):=args_all HALL.out
   have HV2:Hid (Ref.validate f=if Ref.rules f=false then 7 else if f.blocks.all (fun l=>l.all (Ref.typed f))=false then 6 else if Ref.stated f=false then 9 else 0):=by show _=_;rw [HV.out,HALL.out];rfl
   have HIL:Hid (∀ w1,Gr w w1→Calls Tryz.prog 66 #[.agg #[.slice Ap f.params.length cp,.int .i64 f.ret,.slice As f.slots.length cs,.slice Ab f.blocks.length cb]] w1 fun e w'=>e=.returned (.bool (Ref.rules f))∧Gr w1 w'):=by
    rw [← isLaid_eq]
    exact fun w1 q=>isLaid_any _ f w1 (hf0.gr q) HB.out.1 HB.out.2 HA
   have HKD:Hid (∀ w',Gr Wr w'→w'.heap[D]?=some (.deferred (some []))):=fun w' q=>(q.heap D (Array.getElem?_eq_some_iff.1 hK).1).trans hK
   have hDl:D<Wr.heap.size:=(Array.getElem?_eq_some_iff.1 hK).1
   obtain ⟨m0,m1,m2,m3⟩:=B0.out _ (hgr0.trans hg0)
   have hgWr:Gr w Wr:=hgw0.trans hg0
   obtain ⟨ru,hru⟩:∃ ru,Ref.rules f=ru:=⟨_,rfl⟩
   have HRU:=Lib.hid hru
   rw [hru] at HV2 HIL
   clear hok hK hru
   cases ru with
   | false =>
    go_wp2_with (go_at_call 66;refine (HIL.out _ hgWr).mono ?_;rintro e w5 ⟨rfl,g5⟩;have hbr5:=R0.out _ (hgr0.trans (hg0.trans g5));have rc5:=cell_of_one hbr5;have rf5:=free_of_one hbr5)
    refine retE1 (w0:=w) (Br:=w.heap.size+1) (b:=7) (t:=2) rfl ((KeepsOthers.setCell _ _ _).same D _ (HKD.out _ g5) rfl) rfl rfl (heap_setCell_at (i:=0) (.int .i64 7) hbr5) (Below.setCell (hgWr.trans g5) (p:=⟨w.heap.size+1,0,none⟩) (by show w.heap.size≤w.heap.size+1;omega) _) (by omega) ?_
    exact fun w' g=>⟨ret_int (by rw [HV2.out];rfl),g⟩
   | true =>
    have hne:Hid (∀ l ∈ f.blocks,l≠[]):=rules_ne HRU.out
    have HL:Hid (f.blocks.all Ref.laid=true):=by
     have:=HRU.out
     unfold Ref.rules at this
     simp only [Bool.and_eq_true] at this
     exact this.1.1
    have HKI:Hid (∀ w1,Gr w w1→Calls Tryz.prog 67 #[.agg #[.slice Ap f.params.length cp,.int .i64 f.ret,.slice As f.slots.length cs,.slice Ab f.blocks.length cb]] w1 fun e w'=>∃ A c,e=.returned (.slice A (Ir.kinds f).length c)∧Hid (IntsAt w'.heap.size w' (.slice A (Ir.kinds f).length c) (Ir.kinds f))∧Gr w1 w'):=by
     intro w1 q
     refine (kinds_any _ f w1 (hf0.gr q) hs hit (by omega)).mono ?_
     rintro e w' ⟨u,q1,q2,q3⟩
     have q2':=q2
     obtain ⟨A,c,rfl,-,-,-⟩:=q2
     exact ⟨A,c,q1,q2',q3⟩
    go_wp2_with (first
      | (go_at_call 66;refine (HIL.out _ hgWr).mono ?_;rintro e w5 ⟨rfl,g5⟩;obtain ⟨n0,n1,n2,n3⟩:=B0.out _ (hgr0.trans (hg0.trans g5)))
      | (go_at_call 67;refine (HKI.out _ (hgWr.trans g5)).mono ?_;rintro e w6 ⟨A6,c6,rfl,HK6,g6⟩;have p0:∀ o,(w6.alloc o).cell? ⟨w.heap.size,0,none⟩=some (.slice Ap f.params.length cp):=fun o=>(B0.out _ (hgr0.trans (hg0.trans (g5.trans (g6.alloc o))))).1;have p1:∀ o,(w6.alloc o).cell? ⟨w.heap.size,1,none⟩=some (.int .i64 f.ret):=fun o=>(B0.out _ (hgr0.trans (hg0.trans (g5.trans (g6.alloc o))))).2.1;have p2:∀ o,(w6.alloc o).cell? ⟨w.heap.size,2,none⟩=some (.slice As f.slots.length cs):=fun o=>(B0.out _ (hgr0.trans (hg0.trans (g5.trans (g6.alloc o))))).2.2.1;have p3:∀ o,(w6.alloc o).cell? ⟨w.heap.size,3,none⟩=some (.slice Ab f.blocks.length cb):=fun o=>(B0.out _ (hgr0.trans (hg0.trans (g5.trans (g6.alloc o))))).2.2.2)
      | (go_at_call 64;refine (HCA.out _).mono ?_;rintro e w7 ⟨rfl,rfl⟩))
    have hgr6:Gr Wr w6:=g5.trans g6
    obtain ⟨W1,hW1⟩:∃ W1,(w6.alloc (.cells #[.slice A6 (Ir.kinds f).length c6] 22)).alloc (.cells #[.slice Ap f.params.length cp,.int .i64 f.ret,.slice As f.slots.length cs,.slice Ab f.blocks.length cb] 25)=W1:=⟨_,rfl⟩
    have hg61:Gr w6 W1:=by rw [← hW1];exact ((Gr.refl _).alloc _).alloc _
    have hgr1:Gr W W1:=hgr0.trans (hg0.trans (hgr6.trans hg61))
    have hgw1:Gr w W1:=hB0.trans hgr1
    have hgWr1:Gr Wr W1:=hgr6.trans hg61
    have hsz1:W1.heap.size≤w6.heap.size+2∧w6.heap.size+2≤W1.heap.size:=by rw [← hW1];simp
    have hbx1:∀ o,W1.cell? ⟨w6.heap.size+1,o,none⟩=(#[.slice Ap f.params.length cp,.int .i64 f.ret,.slice As f.slots.length cs,.slice Ab f.blocks.length cb]:Array Value)[o]?:=by
     intro o;rw [← hW1];exact cell_of_row _ _ _ _ _ _ (heap_alloc2_new w6 _ _)
    have hk6:W1.heap[w6.heap.size]?=some (.cells #[.slice A6 (Ir.kinds f).length c6] 22 (0,0)):=by rw [← hW1];exact heap_alloc2_old w6 _ _
    have KB:Hid (∀ w',Gr W1 w'→w'.heap[w6.heap.size]?=some (.cells #[.slice A6 (Ir.kinds f).length c6] 22 (0,0))):=fun w' q=>(q.heap _ (by omega)).trans hk6
    have HKK:Hid (∀ w',Gr W1 w'→IntsAt w'.heap.size w' (.slice A6 (Ir.kinds f).length c6) (Ir.kinds f)):=fun w' q=>HK6.out.gr (hg61.trans q)
    have hw1:=hgw1.size
    have hwr1:=hgWr1.size
    rw [hW1]
    clear n0 n1 n2 n3 m0 m1 m2 m3 p0 p1 p2 p3 hk6
    refine range_all (w:=w) (f:=f) (q:=5) (Bf:=w6.heap.size+1) rfl hf0 hgw1 hs (by omega) (hbx1 0) (hbx1 3) (fun pre Wx=>(∀ it ∈ pre,Ref.typed f it.ins=true)∧Gr W1 Wx)
     (fun c pre Wx=>c=.ret∧(∃ it ∈ pre,Ref.typed f it.ins=false)∧Below w.heap.size w Wx∧Wx.heap[w.heap.size+1]?=some (.cells #[.int .i64 6] 32 (0,0))∧Wx.heap[D]?=some (.deferred (some [])))
     (OwnFrom.and (ownFrom_pure _ _) (ownFrom_gr W1)) (fun c=>OwnFrom.and (ownFrom_pure _ _) (OwnFrom.and (ownFrom_pure _ _) (OwnFrom.and (ownFrom_below (Nat.le_refl _) (by omega)) (OwnFrom.and (cells_own _ _ _) ?hD)))) (fun pre Wx h=>h.2.size) ⟨fun it h=>by simp at h,Gr.refl _⟩ ?hassign2 ?hbody2 ?hdone2 ?hstop2
    case hD =>
     intro s X Y row h hg hr
     refine (hg.block D (Array.getElem?_eq_some_iff.1 h).1 (fun e=>?_)).trans h
     have:=(hr D e.symm).1
     omega
    case hassign2 =>
     intro l it aa ta ca ct Wx K hK
     simp only [List.setIfInBounds_toArray,List.set_cons_succ,List.set_cons_zero,encV,rowV] at hK ⊢
     gi_wp2
     exact hK
    case hbody2 =>
     rintro l pre it aa ta ca ct Wx Bx ⟨hok,hg9⟩ hva hvt hmem hlt hBx hrow
     simp only [List.setIfInBounds_toArray,List.set_cons_succ,List.set_cons_zero,encV]
     have hX:∀ o,Wx.cell? ⟨Bx,o,none⟩=(rowV it aa ta ca ct)[o]?:=fun o=>cell_of_row _ _ _ _ _ _ hrow
     have x0:Wx.cell? ⟨Bx,0,none⟩=some (.int .i64 it.ins.op):=hX 0
     have x1:Wx.cell? ⟨Bx,1,none⟩=some (.int .i64 it.ins.width):=hX 1
     have x2:Wx.cell? ⟨Bx,2,none⟩=some (.int .i64 it.ins.flags):=hX 2
     have x3:Wx.cell? ⟨Bx,3,none⟩=some (.slice aa it.ins.args.length ca):=hX 3
     have x4:Wx.cell? ⟨Bx,4,none⟩=some (.int .u32 it.ins.imm):=hX 4
     have x5:Wx.cell? ⟨Bx,5,none⟩=some (.slice ta it.ins.to.length ct):=hX 5
     obtain ⟨lb,e1,e2⟩:=items_in f it hmem
     have hAx:=HA.out lb (List.mem_of_getElem? e1) it.ins (List.mem_of_getElem? e2)
     have HC:Hid (Calls Tryz.prog 68 #[.agg #[.slice Ap f.params.length cp,.int .i64 f.ret,.slice As f.slots.length cs,.slice Ab f.blocks.length cb],.agg #[.int .i64 it.ins.op,.int .i64 it.ins.width,.int .i64 it.ins.flags,.slice aa it.ins.args.length ca,.int .u32 it.ins.imm,.slice ta it.ins.to.length ct],.slice A6 (Ir.kinds f).length c6] Wx fun e w'=>e=.returned (.bool (Ref.typed f it.ins))∧Gr Wx w'):=by
      rw [← typed_eq f it.ins hAx]
      exact ityped_any f it.ins (Ir.kinds f) _ _ _ aa ta A6 ca ct c6 Wx (hva.gr (hgw1.trans hg9)) (HKK.out _ hg9) (arg_lens hAx)
     obtain ⟨m0,m1,m2,m3⟩:=B0.out _ (hgr1.trans hg9)
     have kb:=cell_of_one (KB.out _ hg9)
     have hgs:=hg9.size
     obtain ⟨ag,hag⟩:∃ ag,Ref.typed f it.ins=ag:=⟨_,rfl⟩
     have HAG:=Lib.hid hag
     rw [hag] at HC
     clear hX hmem hlt hrow hag hAx e1 e2
     cases ag with
     | false =>
      gi_wp2_with (refine ⟨trivial,?_⟩;gi_at_call 68;refine (CallsIn.inRound l (callsIn_wide.2 HC.out)).mono ?_;rintro e w9 ⟨rfl,g9⟩;have hbr5:=R0.out _ (hgr1.trans (hg9.trans g9));have rc5:=cell_of_one hbr5;have rf5:=free_of_one hbr5)
      refine ⟨(g9.keeps.trans (KeepsOthers.setCell _ _ _)).from _,rfl,⟨it,by simp,HAG.out⟩,?_,?_,?_⟩
      ·exact Below.setCell (hgw1.trans (hg9.trans g9)) (p:=⟨w.heap.size+1,0,none⟩) (by show w.heap.size≤w.heap.size+1;omega) _
      ·exact heap_setCell_at (i:=0) (.int .i64 6) hbr5
      ·exact (KeepsOthers.setCell _ _ _).same D _ (HKD.out _ (hgWr1.trans (hg9.trans g9))) rfl
     | true =>
      gi_wp2_with (refine ⟨trivial,?_⟩;gi_at_call 68;refine (CallsIn.inRound l (callsIn_wide.2 HC.out)).mono ?_;rintro e w9 ⟨rfl,g9⟩)
      refine ⟨g9.keeps.from _,Below.mono g9 (by omega),?_,hg9.trans g9⟩
      intro it' hi'
      rcases List.mem_append.1 hi' with h | h
      ·exact hok it' h
      ·simp at h;subst h;exact HAG.out
    case hstop2 =>
     rintro D2 c pre Wx hD2 hpre ⟨rfl,⟨it,hm,hno⟩,hB,hbr,hKD⟩ hK
     have HF:Hid (f.blocks.all (fun l=>l.all (Ref.typed f))=false):=by
      show _=_
      rw [← items_all]
      exact List.all_eq_false.2 ⟨it,hpre.subset hm,by simp [hno]⟩
     have HK:=Lib.hid hK
     have HKD':=Lib.hid hKD
     clear hK hm hno hKD
     go_wp2
     refine retE2 (w0:=w) (Br:=w.heap.size+1) (b:=6) (t:=2) rfl HK.out HKD'.out (by omega) rfl rfl hbr hB (by omega) (by omega) ?_
     exact fun w' g=>⟨ret_int (by rw [HV2.out,HF.out];rfl),g⟩
    case hdone2 =>
     rintro D2 Wx hD2 ⟨hok,hg9⟩ hK
     have HTT:Hid (f.blocks.all (fun l=>l.all (Ref.typed f))=true):=by
      show _=_
      rw [← items_all]
      exact List.all_eq_true.2 hok
     have HT:Hid (∀ l ∈ f.blocks,∀ x ∈ l,Ref.typed f x=true):=fun l hl x hx=>List.all_eq_true.1 (List.all_eq_true.1 HTT.out l hl) x hx
     have HID:Hid (Calls Tryz.prog 69 #[.agg #[.slice Ap f.params.length cp,.int .i64 f.ret,.slice As f.slots.length cs,.slice Ab f.blocks.length cb]] Wx fun e w'=>e=.returned (.bool (Ref.stated f))∧Gr Wx w'):=by
      rw [← stated_eq]
      exact isDefined_any _ f Wx (hf0.gr (hgw1.trans hg9)) HB.out.1 HB.out.2 hit (by omega) hln HA HL HT
     have hr9:=R0.out _ (hgr1.trans hg9)
     obtain ⟨m0,m1,m2,m3⟩:=B0.out _ (hgr1.trans hg9)
     have HK2D:Hid (∀ w',Gr Wx w'→w'.heap[D2]?=some (.deferred (some []))):=fun w' q=>(q.heap D2 (Array.getElem?_eq_some_iff.1 hK).1).trans hK
     obtain ⟨st,hst⟩:∃ st,Ref.stated f=st:=⟨_,rfl⟩
     rw [hst] at HID HV2
     clear hok hK hst
     cases st
     ·go_wp2_with (go_at_call 69;refine HID.out.mono ?_;rintro e w9 ⟨rfl,g9⟩;have hbr5:=R0.out _ (hgr1.trans (hg9.trans g9));have rc5:=cell_of_one hbr5;have rf5:=free_of_one hbr5)
      refine retE2 (w0:=w) (Br:=w.heap.size+1) (b:=9) (t:=2) rfl ((KeepsOthers.setCell _ _ _).same D2 _ (HK2D.out _ g9) rfl) ((KeepsOthers.setCell _ _ _).same D _ (HKD.out _ (hgWr1.trans (hg9.trans g9))) rfl) (by omega) rfl rfl (heap_setCell_at (i:=0) (.int .i64 9) hbr5) (Below.setCell (hgw1.trans (hg9.trans g9)) (p:=⟨w.heap.size+1,0,none⟩) (by show w.heap.size≤w.heap.size+1;omega) _) (by omega) (by omega) ?_
      exact fun w' g=>⟨ret_int (by rw [HV2.out,HTT.out];rfl),g⟩
     ·go_wp2_with (go_at_call 69;refine HID.out.mono ?_;rintro e w9 ⟨rfl,g9⟩;have hbr5:=R0.out _ (hgr1.trans (hg9.trans g9));have rc5:=cell_of_one hbr5;have rf5:=free_of_one hbr5)
      refine retE2 (w0:=w) (Br:=w.heap.size+1) (b:=0) (t:=2) rfl ((KeepsOthers.setCell _ _ _).same D2 _ (HK2D.out _ g9) rfl) ((KeepsOthers.setCell _ _ _).same D _ (HKD.out _ (hgWr1.trans (hg9.trans g9))) rfl) (by omega) rfl rfl (heap_setCell_at (i:=0) (.int .i64 0) hbr5) (Below.setCell (hgw1.trans (hg9.trans g9)) (p:=⟨w.heap.size+1,0,none⟩) (by show w.heap.size≤w.heap.size+1;omega) _) (by omega) (by omega) ?_
      exact fun w' g=>⟨ret_int (by rw [HV2.out,HTT.out];rfl),g⟩
end Go.Proofs.YthfhamagopbgcaaGreat

namespace Go.Proofs.YthfhamagopbgcaaGreat
open Go.RowKit Go.Shelf

/-- What the contracts ask of a function: its lists are short, its numbers are what they can be. -/
structure Nice (f:Fn):Prop where
 blocks:f.blocks.length≤100000
 block:∀ l ∈ f.blocks,l.length≤100000
 wf:∀ l ∈ f.blocks,∀ x ∈ l,WfI x
 flags:∀ l ∈ f.blocks,∀ x ∈ l,-9223372036854775808≤x.flags∧x.flags≤9223372036854775807
theorem ival_nice (v:Value) (f:Fn) (w:World) (hf:FnAt w.heap.size w v f) (hn:Nice f):Calls Tryz.prog 38 #[v] w fun e w'=>e=.returned (.int .i64 (Ref.validate f))∧Gr w w' :=
 ival_any v f w hf hn.blocks hn.block hn.wf hn.flags
theorem rval_nice (v:Value) (f:Fn) (w:World) (hf:FnAt w.heap.size w v f) (hn:Nice f):Calls Tryz.prog 42 #[v] w fun e w'=>e=.returned (.int .i64 (Ref.validate f))∧Gr w w' :=
 rval_any v f w hf hn.blocks hn.block hn.wf
/-- A function that is valid is small. -/
theorem valid_small {f:Fn} (h:Ref.validate f=0):f.params.length≤3∧f.slots.length≤2∧1≤f.blocks.length∧f.blocks.length≤10∧Ref.total f.blocks≤40:=by
 unfold Ref.validate at h
 split at h
 ·cases h
 split at h
 ·cases h
 omega
def Ref.countR (f:Fn):Int:=if Ref.validate f=0 then Ref.count f else 0
def Ref.valuedR (f:Fn) (v:Int):Int:=if Ref.validate f=0 then (if v<0∨(Ref.count f:Int)≤v then 4 else 0) else Ref.validate f
def Ref.kindR (f:Fn) (v:Int):Int:=if Ref.valuedR f v=0 then Ref.kind f v else 0

set_option maxHeartbeats 2000000 in
theorem Count_any (v:Value) (f:Fn) (w:World) (hf:FnAt w.heap.size w v f) (hn:Nice f) :
  Calls Tryz.prog 135 #[v] w fun e w'=>e=.returned (.tuple #[.int .i64 (Ref.countR f),.int .i64 (Ref.validate f)])∧Gr w w':=by
 have HV:Hid (∀ w1,Gr w w1→Calls Tryz.prog 38 #[v] w1 fun e w'=>e=.returned (.int .i64 (Ref.validate f))∧Gr w1 w'):=fun w1 q=>ival_nice v f w1 (hf.gr q) hn
 have HSZ:Hid (∀ w1,Gr w w1→Calls Tryz.prog 62 #[v] w1 fun e w'=>e=.returned (.int .i64 (Ref.total f.blocks))∧Gr w1 w'):=fun w1 q=>size_any v f w1 (hf.gr q) hn.blocks
 have HC:Hid (Ref.countR f=if Ref.validate f=0 then (Ref.count f:Int) else 0):=by show _=_;rfl
 have HSM:Hid (Ref.validate f=0→f.params.length≤3∧Ref.total f.blocks≤40):=fun h=>by have:=valid_small h;omega
 have HCT:Hid ((Ref.count f:Int)=f.params.length+Ref.total f.blocks):=by show _=_;unfold Ref.count Ref.number;rw [List.take_length];omega
 obtain ⟨vp,vs,vb,rfl,hp,hsl,hb⟩:=hf
 obtain ⟨Ap,cp,rfl,hp1,hp2,-⟩:=hp
 obtain ⟨As,cs,rfl,hs1,hs2,-⟩:=hsl
 obtain ⟨Ab,cb,rfl,hb1,hb2,-⟩:=hb
 obtain ⟨W,hW⟩:∃ W,w.alloc (.cells #[.slice Ap f.params.length cp,.int .i64 f.ret,.slice As f.slots.length cs,.slice Ab f.blocks.length cb] 25)=W:=⟨_,rfl⟩
 have hB0:Gr w W:=by rw [← hW];exact (Gr.refl w).alloc _
 have g0:Gr (w.alloc (.cells #[.slice Ap f.params.length cp,.int .i64 f.ret,.slice As f.slots.length cs,.slice Ab f.blocks.length cb] 25)) W:=by rw [hW];exact Gr.refl _
 have hWs:W.heap.size=w.heap.size+1:=by rw [← hW];simp
 have B0:Hid (∀ w',Gr W w'→(w'.cell? ⟨w.heap.size,0,none⟩=some (.slice Ap f.params.length cp)∧w'.cell? ⟨w.heap.size,1,none⟩=some (.int .i64 f.ret)∧w'.cell? ⟨w.heap.size,2,none⟩=some (.slice As f.slots.length cs)∧w'.cell? ⟨w.heap.size,3,none⟩=some (.slice Ab f.blocks.length cb))) :=
  fun w' q=>⟨(q.cell _ _ (by omega)).trans (cell_box _ _ 0 g0 rfl),(q.cell _ _ (by omega)).trans (cell_box _ _ 1 g0 rfl),(q.cell _ _ (by omega)).trans (cell_box _ _ 2 g0 rfl),(q.cell _ _ (by omega)).trans (cell_box _ _ 3 g0 rfl)⟩
 obtain ⟨k0,k1,k2,k3⟩:=B0.out W (Gr.refl _)
 obtain ⟨e,he⟩:∃ e,Ref.validate f=e:=⟨_,rfl⟩
 rw [he] at HV HC HSM
 have HE:=Lib.hid he
 clear g0 he hn
 by_cases h0:e=0
 ·have hn0:(e != 0)=false:=by simp [h0]
  obtain ⟨s1,s2⟩:=HSM.out h0
  have HE0:=Lib.hid h0
  have s3:(f.params.length:Int)≤3:=by omega
  have s4:(Ref.total f.blocks:Int)≤40:=by omega
  clear h0 s1 s2
  have hwr:IntKind.i64.wrap ((f.params.length:Int)+(Ref.total f.blocks:Int))=(f.params.length:Int)+(Ref.total f.blocks:Int):=IntWalk.i64_in _ (by omega)
  go_enter Tryz.func135, Tryz.ntmps135
  go_wp2_with (go_at_call 38;refine (HV.out _ hB0).mono ?_;rintro e w1 ⟨rfl,g1⟩;have kp1:=Lib.hid (B0.out _ g1))
  go_region_held3 (fun w'=>w'.cell? ⟨w.heap.size,0,none⟩=some (.slice Ap f.params.length cp)∧w'.cell? ⟨w.heap.size,1,none⟩=some (.int .i64 f.ret)∧w'.cell? ⟨w.heap.size,2,none⟩=some (.slice As f.slots.length cs)∧w'.cell? ⟨w.heap.size,3,none⟩=some (.slice Ab f.blocks.length cb)) (first | exact B0.out _ g1.drew | exact B0.out _ g3) (first | (go_at_call 62;refine (HSZ.out _ ((hB0.trans g1).drew)).mono ?_;rintro e w3 ⟨rfl,g30⟩;have g3:=g1.drew.trans g30))
  all_goals go_wp2
  all_goals go_ret2
  all_goals exact ⟨by rw [HC.out,HE.out,HE0.out,if_pos rfl,HCT.out];rfl,hB0.trans g3⟩
 ·have hn0:(e != 0)=true:=by simp [h0]
  have HC2:Hid (Ref.countR f=0):=by show _=_;rw [HC.out,if_neg h0]
  clear h0
  go_enter Tryz.func135, Tryz.ntmps135
  go_wp2_with (go_at_call 38;refine (HV.out _ hB0).mono ?_;rintro e w1 ⟨rfl,g1⟩)
  go_ret2
  exact ⟨by rw [HC2.out,HE.out];rfl,hB0.trans g1⟩

set_option maxHeartbeats 2000000 in
theorem valued_any (v:Value) (f:Fn) (z:Int) (w:World) (hf:FnAt w.heap.size w v f) (hn:Nice f) :
  Calls Tryz.prog 96 #[v,.int .i64 z] w fun e w'=>e=.returned (.int .i64 (Ref.valuedR f z))∧Gr w w':=by
 have HC:Hid (∀ w1,Gr w w1→Calls Tryz.prog 135 #[v] w1 fun e w'=>e=.returned (.tuple #[.int .i64 (Ref.countR f),.int .i64 (Ref.validate f)])∧Gr w1 w'):=fun w1 q=>Count_any v f w1 (hf.gr q) hn
 have HR:Hid (Ref.valuedR f z=if Ref.validate f=0 then (if z<0∨(Ref.count f:Int)≤z then 4 else 0) else Ref.validate f):=by show _=_;rfl
 have HCR:Hid (Ref.countR f=if Ref.validate f=0 then (Ref.count f:Int) else 0):=by show _=_;rfl
 obtain ⟨vp,vs,vb,rfl,hp,hsl,hb⟩:=hf
 obtain ⟨Ap,cp,rfl,hp1,hp2,-⟩:=hp
 obtain ⟨As,cs,rfl,hs1,hs2,-⟩:=hsl
 obtain ⟨Ab,cb,rfl,hb1,hb2,-⟩:=hb
 have hB0:Gr w (w.alloc (.cells #[.slice Ap f.params.length cp,.int .i64 f.ret,.slice As f.slots.length cs,.slice Ab f.blocks.length cb] 25)):=(Gr.refl w).alloc _
 obtain ⟨e,he⟩:∃ e,Ref.validate f=e:=⟨_,rfl⟩
 obtain ⟨c,hc⟩:∃ c,(Ref.count f:Int)=c:=⟨_,rfl⟩
 obtain ⟨c',hc'⟩:∃ c,Ref.countR f=c:=⟨_,rfl⟩
 rw [he,hc'] at HC
 rw [he,hc] at HR HCR
 rw [hc'] at HCR
 clear he hc hc' hn
 by_cases h0:e=0
 ·have hn0:(e != 0)=false:=by simp [h0]
  have HCC:Hid (c'=c):=by show _=_;rw [HCR.out,if_pos h0]
  have HR2:Hid (Ref.valuedR f z=if z<0∨c'≤z then 4 else 0):=by show _=_;rw [HR.out,if_pos h0,HCC.out]
  clear h0
  rcases (by omega:z<0∨(0≤z∧c'≤z)∨(0≤z∧z<c')) with h | ⟨h,h'⟩ | ⟨h,h'⟩
  all_goals
   go_enter Tryz.func96, Tryz.ntmps96
   go_wp2_with (go_at_call 135;refine (HC.out _ hB0).mono ?_;rintro e w1 ⟨rfl,g1⟩)
   go_ret
   exact ⟨ret_int (by rw [HR2.out];first | rw [if_pos (by omega)] | rw [if_neg (by omega)]),hB0.trans g1⟩
 ·have hn0:(e != 0)=true:=by simp [h0]
  have HR2:Hid (Ref.valuedR f z=e):=by show _=_;rw [HR.out,if_neg h0]
  clear h0
  go_enter Tryz.func96, Tryz.ntmps96
  go_wp2_with (go_at_call 135;refine (HC.out _ hB0).mono ?_;rintro e w1 ⟨rfl,g1⟩)
  go_ret
  exact ⟨ret_int (by rw [HR2.out]),hB0.trans g1⟩

set_option maxHeartbeats 2000000 in
theorem Kind_any (v:Value) (f:Fn) (z:Int) (w:World) (hf:FnAt w.heap.size w v f) (hn:Nice f) :
  Calls Tryz.prog 57 #[v,.int .i64 z] w fun e w'=>e=.returned (.tuple #[.int .i64 (Ref.kindR f z),.int .i64 (Ref.valuedR f z)])∧Gr w w':=by
 have HC:Hid (∀ w1,Gr w w1→Calls Tryz.prog 96 #[v,.int .i64 z] w1 fun e w'=>e=.returned (.int .i64 (Ref.valuedR f z))∧Gr w1 w'):=fun w1 q=>valued_any v f z w1 (hf.gr q) hn
 have HR:Hid (Ref.kindR f z=if Ref.valuedR f z=0 then Ref.kind f z else 0):=by show _=_;rfl
 have HG:Hid (Ref.valuedR f z=0→Ref.validate f=0∧0≤z∧z<Ref.count f):=by
  intro h
  unfold Ref.valuedR at h
  split at h
  ·next h1 =>
   split at h
   ·cases h
   ·exact ⟨h1,by omega,by omega⟩
  ·next h1=>exact absurd h h1
 have HK:Hid (Ref.validate f=0→∀ w1,Gr w w1→Calls Tryz.prog 67 #[v] w1 fun e w'=>∃ A c,e=.returned (.slice A (Ir.kinds f).length c)∧Hid (IntsAt w'.heap.size w' (.slice A (Ir.kinds f).length c) (Ir.kinds f))∧Gr w1 w'):=by
  intro h w1 q
  have hsm:=valid_small h
  refine (kinds_any v f w1 (hf.gr q) hn.blocks (by rw [items_len];omega) (by omega)).mono ?_
  rintro e w' ⟨u,q1,q2,q3⟩
  have q2':=q2
  obtain ⟨A,c,rfl,-,-,-⟩:=q2
  exact ⟨A,c,q1,q2',q3⟩
 have HKV:=Lib.hid (kv_eq f z)
 have HKL:=Lib.hid (kinds_len f)
 obtain ⟨vp,vs,vb,rfl,hp,hsl,hb⟩:=hf
 obtain ⟨Ap,cp,rfl,hp1,hp2,-⟩:=hp
 obtain ⟨As,cs,rfl,hs1,hs2,-⟩:=hsl
 obtain ⟨Ab,cb,rfl,hb1,hb2,-⟩:=hb
 obtain ⟨W,hW⟩:∃ W,w.alloc (.cells #[.slice Ap f.params.length cp,.int .i64 f.ret,.slice As f.slots.length cs,.slice Ab f.blocks.length cb] 25)=W:=⟨_,rfl⟩
 have hB0:Gr w W:=by rw [← hW];exact (Gr.refl w).alloc _
 have g0:Gr (w.alloc (.cells #[.slice Ap f.params.length cp,.int .i64 f.ret,.slice As f.slots.length cs,.slice Ab f.blocks.length cb] 25)) W:=by rw [hW];exact Gr.refl _
 have hWs:W.heap.size=w.heap.size+1:=by rw [← hW];simp
 have B0:Hid (∀ w',Gr W w'→(w'.cell? ⟨w.heap.size,0,none⟩=some (.slice Ap f.params.length cp)∧w'.cell? ⟨w.heap.size,1,none⟩=some (.int .i64 f.ret)∧w'.cell? ⟨w.heap.size,2,none⟩=some (.slice As f.slots.length cs)∧w'.cell? ⟨w.heap.size,3,none⟩=some (.slice Ab f.blocks.length cb))) :=
  fun w' q=>⟨(q.cell _ _ (by omega)).trans (cell_box _ _ 0 g0 rfl),(q.cell _ _ (by omega)).trans (cell_box _ _ 1 g0 rfl),(q.cell _ _ (by omega)).trans (cell_box _ _ 2 g0 rfl),(q.cell _ _ (by omega)).trans (cell_box _ _ 3 g0 rfl)⟩
 obtain ⟨k0,k1,k2,k3⟩:=B0.out W (Gr.refl _)
 obtain ⟨e,he⟩:∃ e,Ref.valuedR f z=e:=⟨_,rfl⟩
 rw [he] at HC HR HG ⊢
 clear he hn g0
 by_cases h0:e=0
 ·have hn0:(e != 0)=false:=by simp [h0]
  obtain ⟨s1,s2,s3⟩:=HG.out h0
  have HK1:=Lib.hid (HK.out s1)
  have HE0:=Lib.hid h0
  obtain ⟨n,rfl⟩:=Int.eq_ofNat_of_zero_le s2
  have hnl:n<(Ir.kinds f).length:=by rw [HKL.out];omega
  have hnl':(n:Int)<(Ir.kinds f).length:=by omega
  obtain ⟨y,hy⟩:∃ y,(Ir.kinds f)[n]?=some y:=⟨(Ir.kinds f)[n],List.getElem?_eq_getElem hnl⟩
  have HY:Hid (Ref.kind f (n:Int)=y):=by
   show _=_
   rw [← HKV.out]
   unfold Ir.kv
   rw [if_neg (by omega)]
   simp [List.getD,hy]
  have HYG:=Lib.hid hy
  clear h0 s1 s3 hy
  go_enter Tryz.func57, Tryz.ntmps57
  go_wp2_with (first
    | (go_at_call 96;refine (HC.out _ hB0).mono ?_;rintro e w1 ⟨rfl,g1⟩;obtain ⟨l0,l1,l2,l3⟩:=B0.out _ g1)
    | (go_at_call 67;refine (HK1.out _ (hB0.trans g1)).mono ?_;rintro e w2 ⟨A2,c2,rfl,HI2,g2⟩;obtain ⟨A2',c2',e2,q1,q2,q3⟩:=HI2.out;obtain ⟨b2,o2,e3,hb2',hc2⟩:=q3 (by omega);simp only [Value.slice.injEq,true_and] at e2;obtain ⟨e2,e4⟩:=e2;subst e2;subst e4;subst e3;have hcell:=hc2 n y HYG.out;clear q3 hc2))
  go_ret2
  exact ⟨by rw [HR.out,HE0.out,HY.out];rfl,hB0.trans (g1.trans g2)⟩
 ·have hn0:(e != 0)=true:=by simp [h0]
  have HR2:Hid (Ref.kindR f z=0):=by show _=_;rw [HR.out,if_neg h0]
  clear h0
  go_enter Tryz.func57, Tryz.ntmps57
  go_wp2_with (go_at_call 96;refine (HC.out _ hB0).mono ?_;rintro e w1 ⟨rfl,g1⟩)
  go_ret2
  exact ⟨by rw [HR2.out];rfl,hB0.trans g1⟩
end Go.Proofs.YthfhamagopbgcaaGreat

namespace Go.Proofs.YthfhamagopbgcaaGreat
open Go.RowKit Go.Shelf


end Go.Proofs.YthfhamagopbgcaaGreat
