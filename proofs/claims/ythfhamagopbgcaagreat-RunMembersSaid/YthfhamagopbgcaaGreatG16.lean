/- Parts: IrV IrRange IrLaid. -/
import Derived.Test.YthfhamagopbgcaaGreatG15
import Derived.Test.YthfhamagopbgcaaGreatG06
namespace Go.Proofs.YthfhamagopbgcaaGreat
open Go.RowKit Go.Shelf

theorem results_bool (fn:Func) (tmps:Array Value) (t:Nat) (w:World) (Br:Nat) (b:Bool) (h:fn.results=#[.cell t 4]) (ht:tmps[t]?.getD undef=.pointer (some ⟨Br,0,none⟩)) (hc:w.cell? ⟨Br,0,none⟩=some (.bool b)) :
  (results fn tmps).run Tryz.prog w=.ok (.bool b) w:=by simp [results,h,ht,go_sem,hc]
theorem leaves0 {fn:Func} {R:Ending→World→Prop} {tmps:Array Value} {w:World} {v:Value} (h:(results fn tmps).run Tryz.prog w=.ok v w) (hR:R (.returned v) w):LeavesInM Fence.wide 5 Tryz.prog fn tmps R [] .returning w:=⟨v,h,hR⟩
theorem leavesD {fn:Func} {R:Ending→World→Prop} {tmps:Array Value} {w:World} {D:Nat} {ds:List Deferred} (hK:w.heap[D]?=some (.deferred (some []))) (h:LeavesInM Fence.wide 5 Tryz.prog fn tmps R ds .returning (w.putObj D (.deferred none))) :
  LeavesInM Fence.wide 5 Tryz.prog fn tmps R ({ target:=.collected D,args:=#[] }::ds) .returning w:=⟨by simp,.inl ⟨_,_,rfl,run_takeDeferred hK,h⟩⟩
theorem retM {fn:Func} {R:Ending→World→Prop} {a:Act} {w:World} {v:Value} (hd:a.defers=[]) (h:(results fn a.tmps).run Tryz.prog w=.ok v w) (hR:R (.returned v) w):bodyPostM Fence.wide 5 Tryz.prog fn R .ret a w:=by
 show LeavesInM Fence.wide 5 Tryz.prog fn a.tmps R a.defers .returning w
 rw [hd]
 exact leaves0 h hR
theorem retD {fn:Func} {R:Ending→World→Prop} {a:Act} {w:World} {v:Value} {D:Nat} (hd:a.defers=[{ target:=.collected D,args:=#[] }]) (hK:w.heap[D]?=some (.deferred (some []))) (h:(results fn a.tmps).run Tryz.prog (w.putObj D (.deferred none))=.ok v (w.putObj D (.deferred none)))
  (hR:R (.returned v) (w.putObj D (.deferred none))):bodyPostM Fence.wide 5 Tryz.prog fn R .ret a w:=by
 show LeavesInM Fence.wide 5 Tryz.prog fn a.tmps R a.defers .returning w
 rw [hd]
 exact leavesD hK (leaves0 h hR)
theorem Gr.keeps {a b:World} (h:Gr a b):KeepsOthers a b:=⟨h.size,fun k _ hk _=>(h.heap k (Array.getElem?_eq_some_iff.1 hk).1).trans hk⟩
/-- Behind the taking of the deferred calls: a bool in its box. -/
theorem retB {fn:Func} {R:Ending→World→Prop} {a:Act} {w w0:World} {D Br t:Nat} {b:Bool} (hd:a.defers=[{ target:=.collected D,args:=#[] }]) (hK:w.heap[D]?=some (.deferred (some []))) (hf:fn.results=#[.cell t 4]) (ht:a.tmps[t]?.getD undef=.pointer (some ⟨Br,0,none⟩))
  (hb:w.heap[Br]?=some (.cells #[.bool b] 4 (0,0))) (hw:Below w0.heap.size w0 w) (hD:w0.heap.size≤D) (hR:∀ w',Gr w0 w'→R (.returned (.bool b)) w'):bodyPostM Fence.wide 5 Tryz.prog fn R .ret a w:=by
 have hne:Br≠D:=fun e=>by rw [e,hK] at hb;cases hb
 have hb9:(w.putObj D (.deferred none)).heap[Br]?=some (.cells #[.bool b] 4 (0,0)):=(World.putObj_heap_other hne).trans hb
 refine retD hd hK (results_bool fn a.tmps t _ Br b hf ht (cell_of_one hb9)) (hR _ ?_)
 exact Below.trans hw (belowK_b (w:=w0) (Nat.le_refl _) w D _ _ hD hK rfl rfl)

theorem last_to {f:Fn} {l:List Ins} (hl:Ref.laid l=true) (hA:∀ x ∈ l,Ref.argument f x=true):((l.getLast?.map (·.to)).getD []).length≤2:=by
 have hlast:∀ (l:List Ins) (p:Bool),l≠[]→Ref.laidFrom l p=true→∃ x,l.getLast?=some x∧Ref.isLast x.op=true:=by
  intro l
  induction l with
  | nil=>intro p h;exact absurd rfl h
  | cons x r ih =>
   intro p _ h
   rw [Ref.laidFrom] at h
   simp only [Bool.and_eq_true] at h
   cases r with
   | nil=>exact ⟨x,rfl,by simpa using h.1.1⟩
   | cons y r' =>
    obtain ⟨z,h1,h2⟩:=ih _ (by simp) h.2
    exact ⟨z,by rw [List.getLast?_cons_cons];exact h1,h2⟩
 have hne:=laid_ne hl
 unfold Ref.laid at hl
 simp only [Bool.and_eq_true] at hl
 obtain ⟨x,h1,h2⟩:=hlast l _ hne hl.2
 rw [h1]
 have hx:=hA x (List.mem_of_getLast? h1)
 unfold Ref.argument Ref.counts at hx
 simp only [Bool.and_eq_true] at hx
 obtain ⟨⟨⟨-,hc⟩,-⟩,-⟩:=hx
 simp only [Option.map_some,Option.getD_some]
 have hop:x.op=29∨x.op=30∨x.op=31∨x.op=32:=by unfold Ref.isLast at h2;simpa [or_assoc] using h2
 have hs:(Ref.shape f x).2.1=1∨(Ref.shape f x).2.1=2∨(Ref.shape f x).2.1=0:=by
  rcases hop with h | h | h | h
  all_goals (unfold Ref.shape;rw [h];simp)
 simp only [Bool.not_eq_true',Bool.or_eq_false_iff,Bool.and_eq_false_imp,decide_eq_true_eq,decide_eq_false_iff_not] at hc
 have:=hc.2
 omega
/-- The graph of blocks that are laid is a right one. -/
theorem graph_gval {f:Fn} (hA:∀ l ∈ f.blocks,∀ x ∈ l,Ref.argument f x=true) (hL:f.blocks.all Ref.laid=true) (h1:1≤f.blocks.length) (h2:f.blocks.length≤10):Ir.gval (Ref.graph f)=0:=by
 have hgl:(Ref.graph f).length=f.blocks.length:=by simp [Ref.graph]
 unfold Ir.gval
 rw [if_neg (by omega),if_neg,if_neg]
 ·intro h
  obtain ⟨l,hl,h3⟩:=List.any_eq_true.1 h
  obtain ⟨t,ht,h4⟩:=List.any_eq_true.1 h3
  have:=graph_ok f hA l hl t ht
  unfold Ir.outside at h4
  simp at h4
  omega
 ·intro h
  obtain ⟨l,hl,h3⟩:=List.any_eq_true.1 h
  obtain ⟨b,hb,rfl⟩:=List.mem_map.1 hl
  have:=last_to (List.all_eq_true.1 hL b hb) (hA b hb)
  simp at h3
  omega
end Go.Proofs.YthfhamagopbgcaaGreat
namespace Go.Proofs.YthfhamagopbgcaaGreat
open Go.RowKit Go.Shelf

attribute [local go_sem] Oper.semAt_some

/-- The value of an instruction with its number, block and place, and the cells of the box in which it is laid. -/
def encV (it:It) (aa ta:Option Addr) (ca ct:Nat):Value:=.agg #[.int .i64 it.ins.op,.int .i64 it.ins.width,.int .i64 it.ins.flags,.slice aa it.ins.args.length ca,.int .u32 it.ins.imm,.slice ta it.ins.to.length ct,.int .i64 it.num,.int .i64 it.blk,.int .i64 it.pos]
def rowV (it:It) (aa ta:Option Addr) (ca ct:Nat):Array Value:=#[.int .i64 it.ins.op,.int .i64 it.ins.width,.int .i64 it.ins.flags,.slice aa it.ins.args.length ca,.int .u32 it.ins.imm,.slice ta it.ins.to.length ct,.int .i64 it.num,.int .i64 it.blk,.int .i64 it.pos]

theorem range_all {g p q:Nat} {assign body:Code} {Q:Exit→Act→World→Prop} {a:Act} {w W0:World} {f:Fn} {Bf:Nat} {vp vs vb:Value}
  (hg:a.eval (.tmp g)=.func (.func 104) #[] #[.pointer (some ⟨Bf,0,none⟩)])
  (hf:FnAt w.heap.size w (.agg #[vp,.int .i64 f.ret,vs,vb]) f) (hgw:Gr w W0) (hs:f.blocks.length≤100000) (hBf:Bf<W0.heap.size) (c0:W0.cell? ⟨Bf,0,none⟩=some vp) (c3:W0.cell? ⟨Bf,3,none⟩=some vb)
  (I:List It→World→Prop) (Ix:Code→List It→World→Prop) (hI:OwnFrom W0.heap.size I) (hIx:∀ c,OwnFrom W0.heap.size (Ix c)) (hIw:∀ pre W,I pre W→W0.heap.size≤W.heap.size) (h0:I [] W0)
  (hassign:∀ (l:Nat) (it:It) (aa ta:Option Addr) (ca ct:Nat) (W:World) (K:Act→World→Prop),K { tmps:=(a.tmps.setIfInBounds p (encV it aa ta ca ct)).setIfInBounds q (.pointer (some ⟨W.heap.size,0,none⟩)),defers:=[] } (W.alloc (.cells (rowV it aa ta ca ct) 111)) →
    assign.wpIn (Fence.wide.inRound l) 3 Tryz.prog (Exit.then K (fun _ _ _=>False)) { tmps:=a.tmps.setIfInBounds p (encV it aa ta ca ct),defers:=[] } W)
  (hbody:∀ (l:Nat) (pre:List It) (it:It) (aa ta:Option Addr) (ca ct:Nat) (W:World) (Bx:Nat),I pre W→IntsAt w.heap.size w (.slice aa it.ins.args.length ca) it.ins.args→IntsAt w.heap.size w (.slice ta it.ins.to.length ct) it.ins.to→it ∈ Ir.items f→pre.length<(Ir.items f).length+1 →
    W0.heap.size≤Bx→W.heap[Bx]?=some (.cells (rowV it aa ta ca ct) 111 (0,0)) →
    body.wpIn (Fence.wide.inRound l) 3 Tryz.prog (ownPostG W0.heap.size (Below w.heap.size) I Ix (pre++[it]) W) { tmps:=(a.tmps.setIfInBounds p (encV it aa ta ca ct)).setIfInBounds q (.pointer (some ⟨Bx,0,none⟩)),defers:=[] } W)
  (hdone:∀ (D:Nat) (W:World),W0.heap.size≤D→I (Ir.items f) W→W.heap[D]?=some (.deferred (some []))→Q .normal { a with defers:={ target:=.collected D,args:=#[] }::a.defers } W)
  (hstop:∀ (D:Nat) (c:Code) (pre:List It) (W:World),W0.heap.size≤D→pre <+: Ir.items f→Ix c pre W→W.heap[D]?=some (.deferred (some []))→c.wp Tryz.prog Q { a with defers:={ target:=.collected D,args:=#[] }::a.defers } W) :
  (Code.rangeFunc (.tmp g) #[p] assign body).wp Tryz.prog Q a W0:=by
 have hsz:=hgw.size
 have HS:=all_stops (5-1) (by omega) Bf w.heap.size f vp vs vb w W0 hf (Nat.le_refl _) hgw hs hBf c0 c3
 refine (wpIn_wide (n:=5)).1 ?_
 refine wpIn_rangeFunc_ownH (n:=5) rfl (by omega) (gf:=104) (lb:=#[.pointer (some ⟨Bf,0,none⟩)]) hg trivial (enters_of Tryz.func104 (by kernel_rfl) rfl) HS belowK_t (belowK_b hsz) (Below.refl _ _) (fun _=>rfl)
  (fun pre W=>I (prj pre) W) (fun c pre W=>Ix c (prj pre) W) (fun s=>hI (prj s)) (fun c s=>hIx c (prj s)) h0
  (fun x a' W=>∃ Bx,W0.heap.size≤Bx∧W.heap[Bx]?=some (.cells (rowV x.1.it x.1.aa x.1.ta x.1.ca x.1.ct) 111 (0,0))∧a'={ tmps:=(a.tmps.setIfInBounds p (encV x.1.it x.1.aa x.1.ta x.1.ca x.1.ct)).setIfInBounds q (.pointer (some ⟨Bx,0,none⟩)),defers:=[] })
  ?hAx ?assign ?body ?done ?stop
 case hAx =>
  intro x a' s X Y row h hg hr
  obtain ⟨Bx,h1,h2,h3⟩:=h
  refine ⟨Bx,h1,(hg.block Bx (Array.getElem?_eq_some_iff.1 h2).1 (fun e=>?_)).trans h2,h3⟩
  obtain ⟨-,o,ho,hc⟩:=hr Bx e.symm
  rw [h2] at ho;cases ho;cases hc
 case assign =>
  rintro l pre ⟨⟨it,aa,ca,ta,ct⟩,hgood⟩ W K hi hK
  have e:Array.foldl (fun (t:Array Value) (x:Nat × Value)=>t.setIfInBounds x.1 x.2) a.tmps ((#[p]:Array Nat).zip #[encV it aa ta ca ct])=a.tmps.setIfInBounds p (encV it aa ta ca ct):=by simp
  show Code.wpIn _ _ _ _ _ { tmps:=Array.foldl (fun (t:Array Value) (x:Nat × Value)=>t.setIfInBounds x.1 x.2) a.tmps ((#[p]:Array Nat).zip #[encV it aa ta ca ct]),defers:=[] } W
  rw [e]
  refine hassign l it aa ta ca ct W K ?_
  have hwl:=hIw _ _ hi
  exact hK _ _ ((KeepsOthers.alloc _ _).from _) ((Below.refl _ W).alloc (by omega) _) (hI.alloc _ hi) ⟨W.heap.size,hwl,heap_alloc_new W _,rfl⟩
 case body =>
  rintro l pre ⟨⟨it,aa,ca,ta,ct⟩,hgood⟩ a' W hl hr0 hi ⟨Bx,hBx,hrow,rfl⟩ hlt
  obtain ⟨g1,g2,g3⟩:=hgood
  refine wpIn_mono (hbody l (prj pre) it aa ta ca ct W Bx hi g1 g2 g3 (by rw [show (prj pre).length=pre.length by simp [prj]];exact hlt) hBx hrow) ?_
  intro e a' W' h
  have e1:prj (pre++[⟨⟨it,aa,ca,ta,ct⟩,g1,g2,g3⟩])=prj pre++[it]:=prj_snoc _ _
  cases e <;> simp only [ownPostG,e1] at h ⊢ <;> exact h
 case done =>
  intro D ys W hD hys hi hK
  rw [hys] at hi
  exact hdone D W hD hi hK
 case stop =>
  intro D c pre W hD hpre hi hK
  exact wpIn_wide.2 (hstop D c (prj pre) W hD hpre hi hK)

theorem ownFrom_gr {β:Type} (W0:World):OwnFrom W0.heap.size (fun (_:β) W=>Gr W0 W):=ownFrom_below (Nat.le_refl _) (Nat.le_refl _)
end Go.Proofs.YthfhamagopbgcaaGreat
namespace Go.Proofs.YthfhamagopbgcaaGreat
open Go.RowKit Go.Shelf

attribute [local go_sem] Oper.semAt_some

theorem laid_last {l:List Ins} {y:Ins} (hy:l.getLast?=some y) (h:Ref.isLast y.op=false):Ref.laid l=false:=by
 have:∀ (l:List Ins) (p:Bool),l.getLast?=some y→Ref.laidFrom l p=false:=by
  intro l
  induction l with
  | nil=>intro p h;simp at h
  | cons x r ih =>
   intro p hl
   rw [Ref.laidFrom]
   cases r with
   | nil=>simp at hl;subst hl;simp [h]
   | cons z r'=>rw [ih _ (by rw [List.getLast?_cons_cons] at hl;exact hl)];simp
 unfold Ref.laid
 rw [this l true hy]
 simp
theorem laid_from {l:List Ins} (h:l≠[]):Ref.laid l=Ref.laidFrom l true:=by
 unfold Ref.laid
 cases l with
 | nil=>exact absurd rfl h
 | cons a b=>rfl

set_option maxRecDepth 100000 in
set_option maxHeartbeats 16000000 in
theorem isLaid_any (v:Value) (f:Fn) (w:World) (hf:FnAt w.heap.size w v f) (hb1:1≤f.blocks.length) (hb10:f.blocks.length≤10) (hA:Hid (∀ l ∈ f.blocks,∀ x ∈ l,Ref.argument f x=true)) :
  Calls Tryz.prog 66 #[v] w fun e w'=>e=.returned (.bool (Ir.isLaid f))∧Gr w w':=by
 have hf0:=hf
 obtain ⟨vp,vs,vb,rfl,hp,hsl,hb⟩:=hf
 obtain ⟨Ap,cp,rfl,-,-,-⟩:=hp
 obtain ⟨As,cs,rfl,-,-,-⟩:=hsl
 obtain ⟨Ab,cb,rfl,-,hb2,hb3⟩:=hb
 obtain ⟨bb,ob,rfl,hbb,hcells⟩:=hb3 (by omega)
 obtain ⟨W,hW⟩:∃ W,(w.alloc (.cells #[.slice Ap f.params.length cp,.int .i64 f.ret,.slice As f.slots.length cs,.slice (some ⟨bb,ob,none⟩) f.blocks.length cb] 25)).alloc (.cells #[.bool false] 4)=W:=⟨_,rfl⟩
 have hB0:Gr w W:=by rw [← hW];exact ((Gr.refl w).alloc _).alloc _
 have hWs:W.heap.size=w.heap.size+2:=by rw [← hW];simp
 have g0:Gr (w.alloc (.cells #[.slice Ap f.params.length cp,.int .i64 f.ret,.slice As f.slots.length cs,.slice (some ⟨bb,ob,none⟩) f.blocks.length cb] 25)) W:=by rw [← hW];exact (Gr.refl _).alloc _
 have B0:Hid (∀ w',Gr W w'→w'.cell? ⟨w.heap.size,0,none⟩=some (.slice Ap f.params.length cp)∧w'.cell? ⟨w.heap.size,1,none⟩=some (.int .i64 f.ret)∧w'.cell? ⟨w.heap.size,2,none⟩=some (.slice As f.slots.length cs)∧w'.cell? ⟨w.heap.size,3,none⟩=some (.slice (some ⟨bb,ob,none⟩) f.blocks.length cb)) :=
  fun w' q=>⟨(q.cell _ _ (by omega)).trans (cell_box _ _ 0 g0 rfl),(q.cell _ _ (by omega)).trans (cell_box _ _ 1 g0 rfl),(q.cell _ _ (by omega)).trans (cell_box _ _ 2 g0 rfl),(q.cell _ _ (by omega)).trans (cell_box _ _ 3 g0 rfl)⟩
 have hr0:W.heap[w.heap.size+1]?=some (.cells #[.bool false] 4 (0,0)):=by rw [← hW];exact heap_alloc2_new w _ _
 have R0:Hid (∀ w',Gr W w'→w'.heap[w.heap.size+1]?=some (.cells #[.bool false] 4 (0,0))):=fun w' q=>(q.heap _ (by omega)).trans hr0
 have HS:Hid (Ir.isLaid f=(f.blocks.all Ref.laid && (Ref.before (Ref.graph f) 0).isEmpty && (Ir.items f).all (Ir.phiOk (Ref.graph f)))):=by show _=_;rfl
 have HCg:Hid ((∀ l ∈ f.blocks,l≠[])→∀ w1,Gr w w1→Calls Tryz.prog 59 #[.agg #[.slice Ap f.params.length cp,.int .i64 f.ret,.slice As f.slots.length cs,.slice (some ⟨bb,ob,none⟩) f.blocks.length cb]] w1 fun e w'=>∃ A n c,e=.returned (.slice A n c)∧Hid (TabAt w'.heap.size w' (.slice A n c) (Ref.graph f))∧Gr w1 w') :=
  fun hne w1 g1=>(igraph_any _ f w1 (hf0.gr g1) (by omega) hne).mono fun _ _ ⟨u,h1,h2,h3⟩=>by
   have h2':=h2
   obtain ⟨A,c,rfl,-,-,-⟩:=h2
   exact ⟨A,_,c,h1,h2',h3⟩
 have HCb:Hid (f.blocks.all Ref.laid=true→∀ w1 u (z:Int),TabAt w1.heap.size w1 u (Ref.graph f)→0≤z→z<f.blocks.length→Calls Tryz.prog 109 #[u,.int .i64 z] w1 fun e w'=>∃ A c,e=.returned (.tuple #[.slice A (Ref.before (Ref.graph f) z).length c,.int .i64 0])∧Hid (IntsAt w'.heap.size w' (.slice A (Ref.before (Ref.graph f) z).length c) (Ref.before (Ref.graph f) z))∧Gr w1 w'):=by
  intro hL w1 u z h h0 h1
  refine (Before_any u (Ref.graph f) z w1 h (graph_gval hA.out hL hb1 hb10) h0 (by simpa [Ref.graph] using h1)).mono ?_
  rintro e w' ⟨v,q1,q2,q3⟩
  have q2':=q2
  obtain ⟨A,c,rfl,-,-,-⟩:=q2
  exact ⟨A,c,q1,q2',q3⟩
 have HCA:Hid (∀ w1,Calls Tryz.prog 64 #[.agg #[.slice Ap f.params.length cp,.int .i64 f.ret,.slice As f.slots.length cs,.slice (some ⟨bb,ob,none⟩) f.blocks.length cb]] w1 fun e w'=>e=.returned (.func (.func 104) #[] #[.pointer (some ⟨w1.heap.size,0,none⟩)])∧w'=w1.alloc (.cells #[.slice Ap f.params.length cp,.int .i64 f.ret,.slice As f.slots.length cs,.slice (some ⟨bb,ob,none⟩) f.blocks.length cb] 25)):=fun w1=>all_in f Ap As _ _ _ _ cp cs cb w1
 have HC:=Lib.hid hcells
 have HNE:Hid (f.blocks.all Ref.laid=true→∀ l ∈ f.blocks,l≠[]):=fun h l hl=>laid_ne (List.all_eq_true.1 h l hl)
 refine (callsIn_wide (n:=5)).1 ?_
 refine callsIn_of_wp_marks Tryz.func66 rfl trivial ?_ rfl
 simp only [Tryz.ntmps66,List.size_toArray,List.length_cons,List.length_nil,Nat.reduceAdd,Nat.reduceSub,Array.replicate_succ,Array.replicate_zero,List.push_toArray,List.append_toArray,List.nil_append,List.cons_append]
 refine wpIn_wide.2 ?_
 obtain ⟨-,-,-,k3⟩:=B0.out W (Gr.refl _)
 clear g0 hcells hb3
 go_wp2
 go_loopw [4,5,6,16] (fun _ _ _ b wr=>∃ k:Nat,k≤f.blocks.length∧b=.int .i64 k∧Gr W wr∧Hid (f.blocks.all Ref.laid=(f.blocks.drop k).all Ref.laid)) (fun _ _ _ b _=>f.blocks.length-(intOf b).toNat)
 case atStart=>exact ⟨0,Nat.zero_le _,rfl,Gr.refl _,rfl⟩
 case round =>
  obtain ⟨k,hk,rfl,hgr,hrest⟩:=hrel
  obtain ⟨wo,rfl⟩:∃ wo:World,wo=wr:=⟨_,rfl⟩
  have hrc:=R0.out _ hgr
  have rc:=cell_of_one hrc
  have rf:=free_of_one hrc
  clear k3
  rcases hr:f.blocks.drop k with _ | ⟨l,r⟩
  ·have hkn:=drop_nil hr hk
   have HE:Hid (f.blocks.all Ref.laid=true):=by show _=_;rw [hrest.out,hr];rfl
   obtain ⟨k0,k1,k2,k3⟩:=B0.out _ hgr
   clear hr hrest
   have hge:(f.blocks.length:Int)≤k:=by omega
   clear hkn
   have HCg':=Lib.hid (HCg.out (HNE.out HE.out))
   have HCb':=Lib.hid (HCb.out HE.out)
   by_cases hpos:0<(Ref.before (Ref.graph f) 0).length
   ·have hpos':(0:Int)<((Ref.before (Ref.graph f) 0).length:Int):=by omega
    have HBE:Hid ((Ref.before (Ref.graph f) 0).isEmpty=false):=by show _=_;cases hbe:Ref.before (Ref.graph f) 0 with | nil=>(rw [hbe] at hpos;simp at hpos) | cons a b=>rfl
    clear hpos
    go_wp2_with (first | (go_at_call 59;refine (HCg'.out _ (hB0.trans hgr)).mono ?_;rintro e w1 ⟨A1,n1,c1,rfl,HTab,g1⟩) | (go_at_call 109;refine (HCb'.out _ _ _ (HTab.out.gr ((Gr.refl _).alloc _)) (by omega) (by omega)).mono ?_;rintro e w2 ⟨A2,c2b,rfl,HV2,g2⟩;have hgv2:Gr W w2:=hgr.trans (g1.trans (((Gr.refl _).alloc _).trans g2));obtain ⟨d0,d1,d2,d3⟩:=B0.out _ hgv2;have hr2:=R0.out _ hgv2;have rc2:=cell_of_one hr2;have rf2:=free_of_one hr2))
    refine retM rfl (results_bool _ _ 2 _ _ false rfl rfl (World.cell?_setCell_same' _ _ _ (by rw [rc2];rfl))) ⟨ret_bool (by rw [HS.out,HBE.out];simp),(hB0.trans hgv2).setCell (by show w.heap.size≤w.heap.size+1;omega) _⟩
   ·have hle:((Ref.before (Ref.graph f) 0).length:Int)≤0:=by omega
    have HBE:Hid ((Ref.before (Ref.graph f) 0).isEmpty=true):=by show _=_;rw [List.eq_nil_of_length_eq_zero (show (Ref.before (Ref.graph f) 0).length=0 by omega)];rfl
    clear hpos
    go_wp2_with (first | (go_at_call 59;refine (HCg'.out _ (hB0.trans hgr)).mono ?_;rintro e w1 ⟨A1,n1,c1,rfl,HTab,g1⟩) | (go_at_call 109;refine (HCb'.out _ _ _ (HTab.out.gr ((Gr.refl _).alloc _)) (by omega) (by omega)).mono ?_;rintro e w2 ⟨A2,c2b,rfl,HV2,g2⟩;have hgv2:Gr W w2:=hgr.trans (g1.trans (((Gr.refl _).alloc _).trans g2));obtain ⟨d0,d1,d2,d3⟩:=B0.out _ hgv2;have hr2:=R0.out _ hgv2;have rc2:=cell_of_one hr2;have rf2:=free_of_one hr2) | (go_at_call 64;refine (HCA.out _).mono ?_;rintro e w3 ⟨rfl,rfl⟩))
    have HS2:Hid (Ir.isLaid f=(Ir.items f).all (Ir.phiOk (Ref.graph f))):=by show _=_;rw [HS.out,HE.out,HBE.out];simp
    obtain ⟨W0,hW0⟩:∃ W0,w2.alloc (.cells #[.slice Ap f.params.length cp,.int .i64 f.ret,.slice As f.slots.length cs,.slice (some ⟨bb,ob,none⟩) f.blocks.length cb] 25)=W0:=⟨_,rfl⟩
    have hgw2:Gr w w2:=hB0.trans hgv2
    have hgw0:Gr w W0:=by rw [← hW0];exact hgw2.alloc _
    have hsz:W0.heap.size≤w2.heap.size+1∧w2.heap.size+1≤W0.heap.size:=by rw [← hW0];simp
    have hbx0:∀ o,W0.cell? ⟨w2.heap.size,o,none⟩=(#[.slice Ap f.params.length cp,.int .i64 f.ret,.slice As f.slots.length cs,.slice (some ⟨bb,ob,none⟩) f.blocks.length cb]:Array Value)[o]?:=by
     intro o;rw [← hW0];exact cell_of_row _ _ _ _ _ _ (heap_alloc_new w2 _)
    have hg20:Gr w2 W0:=by rw [← hW0];exact (Gr.refl _).alloc _
    have hgr0:Gr W W0:=hgv2.trans hg20
    have HBg:Hid (∀ w',Gr W0 w'→w'.heap[w1.heap.size]?=some (.cells #[.slice A1 n1 c1] 27 (0,0))):=by
     intro w' q
     have h1:w1.heap.size<(w1.alloc (.cells #[.slice A1 n1 c1] 27)).heap.size:=by simp
     exact ((g2.trans (hg20.trans q)).heap _ h1).trans (heap_alloc_new w1 _)
    have HTab2:Hid (∀ w',Gr W0 w'→TabAt w'.heap.size w' (.slice A1 n1 c1) (Ref.graph f)):=fun w' q=>HTab.out.gr (((Gr.refl _).alloc _).trans (g2.trans (hg20.trans q)))
    have hsw:=hB0.size
    have hww:=hgw0.size
    have hs1:w1.heap.size<W0.heap.size:=by
     have h1:=g2.size
     have h2:=hg20.size
     simp at h1;omega
    rw [hW0]
    clear d0 d1 d2 d3
    refine range_all (w:=w) (f:=f) (q:=10) (Bf:=w2.heap.size) rfl hf0 hgw0 (by omega) (by omega) (hbx0 0) (hbx0 3) (fun pre Wr=>(∀ it ∈ pre,Ir.phiOk (Ref.graph f) it=true)∧Gr W0 Wr)
     (fun c pre Wr=>c=.ret∧(∃ it ∈ pre,Ir.phiOk (Ref.graph f) it=false)∧Below w.heap.size w Wr∧Wr.heap[w.heap.size+1]?=some (.cells #[.bool false] 4 (0,0)))
     (OwnFrom.and (ownFrom_pure _ _) (ownFrom_gr W0)) (fun c=>OwnFrom.and (ownFrom_pure _ _) (OwnFrom.and (ownFrom_pure _ _) (OwnFrom.and (ownFrom_below (Nat.le_refl _) (by omega)) (cells_own _ _ _)))) (fun pre Wr h=>h.2.size) ⟨fun it h=>by simp at h,Gr.refl _⟩ ?hassign ?hbody ?hdone ?hstop
    case hassign =>
     intro l it aa ta ca ct Wr K hK
     simp only [List.setIfInBounds_toArray,List.set_cons_succ,List.set_cons_zero,encV,rowV] at hK ⊢
     gi_wp2
     exact hK
    case hbody =>
     rintro l pre it aa ta ca ct Wr Bx ⟨hok,hg0⟩ hva hvt hmem hlt hBx hrow
     simp only [List.setIfInBounds_toArray,List.set_cons_succ,List.set_cons_zero,encV]
     have hBxl:Bx<Wr.heap.size:=(Array.getElem?_eq_some_iff.1 hrow).1
     have HX:Hid (∀ w' o,Gr Wr w'→w'.cell? ⟨Bx,o,none⟩=(rowV it aa ta ca ct)[o]?):=fun w' o q=>(q.cell Bx o hBxl).trans (cell_of_row _ _ _ _ _ _ hrow)
     have x0:Wr.cell? ⟨Bx,0,none⟩=some (.int .i64 it.ins.op):=HX.out _ 0 (Gr.refl _)
     have x7:Wr.cell? ⟨Bx,7,none⟩=some (.int .i64 it.blk):=HX.out _ 7 (Gr.refl _)
     have hgc:=cell_of_one (HBg.out _ hg0)
     have hibl:(it.blk:Int)<f.blocks.length:=by
      obtain ⟨lb,e1,e2⟩:=items_in f it hmem
      have:=(Array.getElem?_eq_some_iff.1 (show f.blocks.toArray[it.blk]?=some lb by simpa using e1)).1
      simp at this;omega
     have HMEM:=Lib.hid hmem
     clear hmem hlt hrow
     by_cases ho:it.ins.op=28
     ·have ho':(it.ins.op != 28)=false:=by simp [ho]
      obtain ⟨ev,hev⟩:∃ ev,decide (Ref.before (Ref.graph f) it.blk=it.ins.to)=ev:=⟨_,rfl⟩
      have HPK:Hid (Ir.phiOk (Ref.graph f) it=ev):=by show _=_;unfold Ir.phiOk;rw [hev];simp [ho]
      have HEq:Hid (∀ w' v',IntsAt w'.heap.size w' v' (Ref.before (Ref.graph f) it.blk)→Gr w w'→Calls Tryz.prog 110 #[v',.slice ta it.ins.to.length ct] w' fun e w''=>e=.returned (.bool ev)∧Gr w' w''):=by
       rw [← hev];exact fun w' v' h q=>Equal_any v' _ _ _ w' h (hvt.gr q)
      clear ho hev
      cases ev
      all_goals gi_wp2_with (first
        | (refine ⟨trivial,?_⟩;gi_at_call 109;refine (CallsIn.inRound l (callsIn_wide.2 (HCb'.out _ _ _ (HTab2.out _ hg0) (by omega) hibl))).mono ?_;rintro e w4 ⟨A4,c4,rfl,HV4,g4⟩;have x5:w4.cell? ⟨Bx,5,none⟩=some (.slice ta it.ins.to.length ct):=HX.out _ 5 g4)
        | (refine ⟨trivial,?_⟩;gi_at_call 110;refine (CallsIn.inRound l (callsIn_wide.2 (HEq.out _ _ HV4.out (hgw0.trans (hg0.trans g4))))).mono ?_;rintro e w5 ⟨rfl,g5⟩;have hr5:=R0.out _ (hgr0.trans (hg0.trans (g4.trans g5)));have rc5:=cell_of_one hr5;have rf5:=free_of_one hr5))
      ·refine ⟨((g4.trans g5).keeps.trans (KeepsOthers.setCell _ _ _)).from _,rfl,⟨it,by simp,HPK.out⟩,?_,?_⟩
       ·exact Below.setCell (hgw0.trans (hg0.trans (g4.trans g5))) (p:=⟨w.heap.size+1,0,none⟩) (by show w.heap.size≤w.heap.size+1;omega) _
       ·exact heap_setCell_at (i:=0) (.bool false) hr5
      ·refine ⟨(g4.trans g5).keeps.from _,Below.mono (g4.trans g5) (by have:=hgw0.size;have:=hg0.size;omega),?_,hg0.trans (g4.trans g5)⟩
       intro it' hi'
       rcases List.mem_append.1 hi' with h | h
       ·exact hok it' h
       ·simp at h;subst h;exact HPK.out
     ·have ho':(it.ins.op != 28)=true:=by simp [ho]
      have HPK:Hid (Ir.phiOk (Ref.graph f) it=true):=by show _=_;unfold Ir.phiOk;simp [ho]
      clear ho
      gi_wp2
      refine ⟨(KeepsOthers.refl _).from _,Below.refl _ _,?_,hg0⟩
      intro it' hi'
      rcases List.mem_append.1 hi' with h | h
      ·exact hok it' h
      ·simp at h;subst h;exact HPK.out
    case hdone =>
     rintro D Wr hD ⟨hok,hg0⟩ hK
     have hr6:=R0.out _ (hgr0.trans hg0)
     have rc6:=cell_of_one hr6
     have rf6:=free_of_one hr6
     have HT:Hid (Ir.isLaid f=true):=by show _=_;rw [HS2.out];exact List.all_eq_true.2 hok
     have HK:=Lib.hid hK
     clear hok hK
     go_wp2
     refine retB (w0:=w) (Br:=w.heap.size+1) (b:=true) (t:=2) rfl ((KeepsOthers.setCell _ _ _).same D _ HK.out rfl) rfl rfl (heap_setCell_at (i:=0) (.bool true) hr6) (Below.setCell (hgw0.trans hg0) (p:=⟨w.heap.size+1,0,none⟩) (by show w.heap.size≤w.heap.size+1;omega) _) (by omega) ?_
     exact fun w' g=>⟨ret_bool (by rw [HT.out]),g⟩
    case hstop =>
     rintro D c pre Wr hD hpre ⟨rfl,⟨it,hm,hno⟩,hB,hbr⟩ hK
     have HF:Hid (Ir.isLaid f=false):=by show _=_;rw [HS2.out];exact List.all_eq_false.2 ⟨it,hpre.subset hm,by simp [hno]⟩
     have HK:=Lib.hid hK
     clear hK hm hno
     go_wp2
     refine retB (w0:=w) (Br:=w.heap.size+1) (b:=false) (t:=2) rfl HK.out rfl rfl hbr hB (by omega) ?_
     exact fun w' g=>⟨ret_bool (by rw [HF.out]),g⟩
  ·obtain ⟨hlt,hl,hr'⟩:=drop_cons hr
   obtain ⟨u,hu,hul⟩:=HC.out k l hl
   have hu':=((hB0.trans hgr).cell _ _ hbb).trans hu
   obtain ⟨Al,cl,rfl,p1,p2,p3⟩:=hul
   have HR:Hid (f.blocks.all Ref.laid=(Ref.laid l && r.all Ref.laid)):=by show _=_;rw [hrest.out,hr];rfl
   have HR':Hid (f.blocks.drop (k+1)=r):=hr'
   have P3:=Lib.hid p3
   clear hr hl hr' hrest hu p3
   by_cases hl0:l.length=0
   ·have n0:((l.length:Int) == 0)=true:=by simp [hl0]
    have HE:Hid (Ref.laid l=false):=by show _=_;rw [List.eq_nil_of_length_eq_zero hl0];rfl
    clear hl0
    go_wp2
    refine retM rfl (results_bool _ _ 2 _ _ false rfl rfl (World.cell?_setCell_same' _ _ _ (by rw [rc];rfl))) ⟨ret_bool (by rw [HS.out,HR.out,HE.out];simp),(hB0.trans hgr).setCell (by show w.heap.size≤w.heap.size+1;omega) _⟩
   ·have n0:((l.length:Int) == 0)=false:=by rw [beq_eq_false_iff_ne];omega
    have hne:l≠[]:=fun h=>hl0 (by rw [h];rfl)
    have HLD:Hid (Ref.laid l=Ref.laidFrom l true):=laid_from hne
    obtain ⟨bl,ol,rfl,hbl,hcl⟩:=P3.out (by omega)
    have HCL:=Lib.hid hcl
    obtain ⟨y,hy⟩:∃ y,l.getLast?=some y:=⟨_,List.getLast?_eq_some_getLast hne⟩
    obtain ⟨m,hm⟩:∃ m,m+1=l.length:=⟨l.length-1,by omega⟩
    have hym:l[m]?=some y:=by rw [List.getLast?_eq_getElem?] at hy;rw [show m=l.length-1 by omega];exact hy
    obtain ⟨_,_,y0,-⟩:=HCL.out m y hym
    have y0':=((hB0.trans hgr).cell _ _ hbl).trans y0
    have wm:(l.length:Int)-1=m:=by omega
    have hml:(m:Int)<l.length:=by omega
    obtain ⟨ly,hly⟩:∃ ly,Ref.isLast y.op=ly:=⟨_,rfl⟩
    have HCY:Hid (∀ w1,Calls Tryz.prog 108 #[.int .i64 y.op] w1 fun e w'=>e=.returned (.bool ly)∧w1=w'):=by rw [← hly];exact fun w1=>iisLast_any y.op w1
    have HLY:Hid (ly=false→Ref.laid l=false):=fun h=>laid_last hy (by rw [hly,h])
    have HYL:Hid (l[m]?=some y∧Ref.isLast y.op=ly):=⟨hym,hly⟩
    have HM:=Lib.hid hm
    clear hl0 hne hcl hy hm hym y0 hly
    cases ly with
    | false =>
     have HE:=Lib.hid (HLY.out rfl)
     go_wp2_with (go_at_call 108;refine (HCY.out _).mono ?_;rintro e w1 ⟨rfl,rfl⟩)
     refine retM rfl (results_bool _ _ 2 _ _ false rfl rfl (World.cell?_setCell_same' _ _ _ (by rw [rc];rfl))) ⟨ret_bool (by rw [HS.out,HR.out,HE.out];simp),(hB0.trans hgr).setCell (by show w.heap.size≤w.heap.size+1;omega) _⟩
    | true =>
     go_wp2_with (go_at_call 108;refine (HCY.out _).mono ?_;rintro e w1 ⟨rfl,rfl⟩)
     go_loopw [5,6,36] (fun _ _ i wr=>∃ j:Nat,j≤l.length∧i=.int .i64 j∧Gr W wr∧Hid (Ref.laidFrom l true=Ref.laidFrom (l.drop j) (prevB l j))) (fun _ _ i _=>l.length-(intOf i).toNat)
     case atStart=>exact ⟨0,Nat.zero_le _,rfl,hgr,rfl⟩
     case round =>
      obtain ⟨j,hj,rfl,hgr1,hrest1⟩:=hrel
      obtain ⟨wp,rfl⟩:∃ wp:World,wp=wr:=⟨_,rfl⟩
      have hrc1:=R0.out _ hgr1
      have rc1:=cell_of_one hrc1
      have rf1:=free_of_one hrc1
      clear hu' rc rf y0'
      rcases hr1:l.drop j with _ | ⟨x,r1⟩
      ·have hjn:=drop_nil hr1 hj
       have HE3:Hid (Ref.laidFrom l true=true):=by show _=_;rw [hrest1.out,hr1];rfl
       subst hjn
       clear hr1 hrest1
       go_wp2
       go_roundw
       case rel=>exact ⟨k+1,by omega,by go_num,hgr1,by (show _=_;rw [HR.out,HR'.out,HLD.out,HE3.out];simp)⟩
       case measure=>simp [intOf];omega
      ·obtain ⟨hlt1,hx,hr1'⟩:=drop_cons hr1
       obtain ⟨va,vt,i0,i1,i2,i3,i4,i5,hva,hvt⟩:=HCL.out j x hx
       have hgj:=hB0.trans hgr1
       obtain ⟨Aa,ca,rfl,-,-,-⟩:=hva
       obtain ⟨At,ct,rfl,-,-,-⟩:=hvt
       have j0:=(hgj.cell _ _ hbl).trans i0
       have j1:=(hgj.cell _ _ hbl).trans i1
       have j2:=(hgj.cell _ _ hbl).trans i2
       have j3:=(hgj.cell _ _ hbl).trans i3
       have j4:=(hgj.cell _ _ hbl).trans i4
       have j5:=(hgj.cell _ _ hbl).trans i5
       have HR1:Hid (Ref.laidFrom l true=((Ref.isLast x.op == r1.isEmpty) && (decide (x.op≠28) || prevB l j) && Ref.laidFrom r1 (decide (x.op=28)))):=by show _=_;rw [hrest1.out,hr1];rfl
       have HR1':Hid (Ref.laidFrom r1 (decide (x.op=28))=Ref.laidFrom (l.drop (j+1)) (prevB l (j+1))):=by show _=_;rw [prevB_succ l j x hx,hr1']
       have hre:r1.isEmpty=decide ((j:Int)=m):=by
        have h1:r1.length=l.length-(j+1):=by rw [← hr1'];simp
        have h2:=HM.out
        cases r1 with
        | nil=>rw [List.length_nil] at h1;simp only [List.isEmpty_nil];symm;rw [decide_eq_true_eq];omega
        | cons a b=>rw [List.length_cons] at h1;simp only [List.isEmpty_cons];symm;rw [decide_eq_false_iff_not];omega
       have HX:Hid (l[j]?=some x):=hx
       have HXC:Hid (∀ j' x',l[j']?=some x'→w.cell? ⟨bl,ol+j' * 6,none⟩=some (.int .i64 x'.op)):=fun j' x' h=>by obtain ⟨_,_,i0,-⟩:=HCL.out j' x' h;exact i0
       have hjl:(j:Int)<(l.length:Int):=by omega
       clear hr1 hx hr1' hrest1 i0 i1 i2 i3 i4 i5
       obtain ⟨ph,hph⟩:∃ ph,(x.op == 28)=ph:=⟨_,rfl⟩
       have HPN:Hid (decide (x.op≠28)=!ph):=by
        show _=_
        rw [← hph]
        by_cases h:x.op=28 <;> simp [h]
       -- is it allowed, as far as Phis go
       obtain ⟨la,hla⟩:∃ la,Ref.isLast x.op=la:=⟨_,rfl⟩
       have HCI:Hid (∀ w1,Calls Tryz.prog 108 #[.int .i64 x.op] w1 fun e w'=>e=.returned (.bool la)∧w1=w'):=by rw [← hla];exact fun w1=>iisLast_any x.op w1
       -- what is said of the end
       have hem:(((j:Int)<m)∧Hid ((Ref.isLast x.op == r1.isEmpty)=!la))∨((m:Int)≤j∧Hid ((Ref.isLast x.op == r1.isEmpty)=true)):=by
        rcases Int.lt_or_le (j:Int) m with h | h
        ·refine .inl ⟨h,?_⟩
         show _=_
         rw [hre,hla,decide_eq_false (by omega)];cases la <;> rfl
        ·refine .inr ⟨h,?_⟩
         show _=_
         have hjm:j=m:=by have:=HM.out;omega
         have e1:=HYL.out
         rw [← hjm,HX.out] at e1
         obtain ⟨e1,e2⟩:=e1
         cases e1
         rw [hre,e2,decide_eq_true (by omega)];rfl
       clear hre hla
       have rca:∀ o,(wp.alloc o).cell? ⟨w.heap.size+1,0,none⟩=some (.bool false):=fun o=>cell_of_one (R0.out _ (hgr1.alloc o))
       have rfa:∀ o,(wp.alloc o).frozen? ⟨w.heap.size+1,0,none⟩=false:=fun o=>free_of_one (R0.out _ (hgr1.alloc o))
       clear rc1 rf1 hrc1
       rcases (by omega:j=0∨0<j) with hj0 | hj0
       ·have HPB:Hid (prevB l j=true):=by show _=_;rw [hj0];rfl
        have hz:(j:Int)≤0:=by omega
        clear hj0
        rcases hem with ⟨hjm,HEM⟩ | ⟨hjm,HEM⟩
        all_goals cases la
        all_goals cases ph
        all_goals go_wp2_with (go_at_call 108;refine (HCI.out _).mono ?_;rintro e w1 ⟨rfl,rfl⟩)
        all_goals first
         | (go_roundw
            case rel=>exact ⟨j+1,by omega,by go_num,hgr1.alloc _,by (show _=_;rw [HR1.out,HEM.out,HPB.out,HR1'.out];simp)⟩
            case measure=>simp [intOf];omega)
         | (refine retM rfl (results_bool _ _ 2 _ _ false rfl rfl (World.cell?_setCell_same' _ _ _ (by rw [rca _];rfl))) ⟨ret_bool (by rw [HS.out,HR.out,HLD.out,HR1.out,HEM.out];simp),((hB0.trans hgr1).alloc _).setCell (by show w.heap.size≤w.heap.size+1;omega) _⟩)
       ·obtain ⟨p,hp⟩:∃ p,p+1=j:=⟨j-1,by omega⟩
        obtain ⟨x',hx'⟩:∃ x',l[p]?=some x':=⟨l[p]'(by omega),List.getElem?_eq_getElem (by omega)⟩
        have jp:=(hgj.cell _ _ hbl).trans (HXC.out p x' hx')
        have jpa:∀ o,(wp.alloc o).cell? ⟨bl,ol+p * 6,none⟩=some (.int .i64 x'.op):=fun o=>(((Gr.refl wp).alloc o).cell bl _ (by have:=hgj.size;omega)).trans jp
        have HPB:Hid (prevB l j=decide (x'.op=28)):=by show _=_;rw [← hp];exact prevB_succ l p x' hx'
        obtain ⟨pp,hpp⟩:∃ pp,(x'.op == 28)=pp:=⟨_,rfl⟩
        have hpn:(x'.op != 28)=!pp:=by rw [bne,hpp]
        have HPP:Hid (decide (x'.op=28)=pp):=by show _=_;rw [← hpp];rfl
        have wj:(j:Int)-1=p:=by omega
        have hz:(0:Int)<j:=by omega
        have hpl:(p:Int)<(l.length:Int):=by omega
        clear hx' hj0 hp hpp jp
        rcases hem with ⟨hjm,HEM⟩ | ⟨hjm,HEM⟩
        all_goals cases la
        all_goals cases ph
        all_goals cases pp
        all_goals go_wp2_with (go_at_call 108;refine (HCI.out _).mono ?_;rintro e w1 ⟨rfl,rfl⟩)
        all_goals first
         | (go_roundw
            case rel=>exact ⟨j+1,by omega,by go_num,hgr1.alloc _,by (show _=_;rw [HR1.out,HEM.out,HPB.out,HPP.out,HPN.out,HR1'.out];simp)⟩
            case measure=>simp [intOf];omega)
         | (refine retM rfl (results_bool _ _ 2 _ _ false rfl rfl (World.cell?_setCell_same' _ _ _ (by rw [rca _];rfl))) ⟨ret_bool (by rw [HS.out,HR.out,HLD.out,HR1.out,HEM.out,HPB.out,HPP.out,HPN.out];simp),((hB0.trans hgr1).alloc _).setCell (by show w.heap.size≤w.heap.size+1;omega) _⟩)
end Go.Proofs.YthfhamagopbgcaaGreat
