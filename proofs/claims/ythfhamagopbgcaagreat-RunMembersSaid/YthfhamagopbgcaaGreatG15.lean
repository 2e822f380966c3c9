/- homes. -/
import Derived.Test.YthfhamagopbgcaaGreatG14
import Derived.Test.YthfhamagopbgcaaGreatG08
import Derived.Maps.OwnIn
namespace Go.Proofs.YthfhamagopbgcaaGreat
open Go.RowKit Go.Shelf

attribute [local go_sem] Oper.semAt_some

theorem OwnFrom.ex {β γ:Type} {B:Nat} {I:γ→β→World→Prop} (h:∀ c,OwnFrom B (I c)):OwnFrom B (fun s W=>∃ c,I c s W) :=
 fun s X Y row ⟨c,hc⟩ hg hr=>⟨c,h c s X Y row hc hg hr⟩
/-- What a slice owns abides whatever the loop turns. -/
theorem own1_own {β:Type} (B b:Nat) (e:TypeId) (v:Value) (xs:β→List Value):OwnFrom B (fun s W=>Own1 b e W v (xs s)):=by
 intro s X Y row h hg hr
 refine World.ownsRow.kept h hg ?_
 rcases h.2 with ⟨rfl,_⟩ | ⟨g,cap,cur,rfl,_,hgb,_⟩
 ·exact .inl rfl
 ·refine .inr fun e'=>?_
  obtain ⟨-,o,ho,hc⟩:=hr g (by simpa [Value.ownBlock] using e'.symm)
  rw [hgb] at ho;cases ho;cases hc
theorem cells_own {β:Type} {B:Nat} (Bx:Nat) (c:Array Value) (t:TypeId):OwnFrom B (fun (_:β) W=>W.heap[Bx]?=some (.cells c t (0,0))):=by
 intro s X Y row h hg hr
 refine (hg.block Bx (Array.getElem?_eq_some_iff.1 h).1 (fun e=>?_)).trans h
 obtain ⟨-,o,ho,hc⟩:=hr Bx e.symm
 rw [h] at ho;cases ho;cases hc

theorem Own1.keep {B:Nat} {e:TypeId} {W W':World} {v:Value} {xs:List Value} (h:Own1 B e W v xs) (hk:∀ k,v.ownBlock=some k→W'.heap[k]?=W.heap[k]?):Own1 B e W' v xs:=by
 refine ⟨h.1,?_⟩
 rcases h.2 with h | ⟨g,cap,cur,rfl,hb,hg,r⟩
 ·exact .inl h
 ·exact .inr ⟨g,cap,cur,rfl,hb,(hk g rfl).trans hg,r⟩
theorem Own1.typed {B:Nat} {e:TypeId} {W:World} {v:Value} {xs:List Value} (h:Own1 B e W v xs) {k:Nat} (hk:v.ownBlock=some k):B≤k∧k<W.heap.size∧∃ cur,W.heap[k]?=some (.cells cur e (0,0)):=by
 rcases h.2 with ⟨rfl,_⟩ | ⟨g,cap,cur,rfl,hb,hg,_⟩
 ·simp [Value.ownBlock] at hk
 ·simp [Value.ownBlock] at hk;subst hk;exact ⟨hb,(Array.getElem?_eq_some_iff.1 hg).1,cur,hg⟩
theorem Own1.not_box {B:Nat} {e T:TypeId} {W:World} {v:Value} {xs:List Value} {Bh:Nat} {row:Array Value} {fr:Nat × Nat} (h:Own1 B e W v xs) (hb:W.heap[Bh]?=some (.cells row T fr)) (hT:T≠e):v.ownBlock≠some Bh:=by
 intro e'
 obtain ⟨-,-,cur,hc⟩:=h.typed e'
 rw [hb] at hc;cases hc;exact hT rfl
/-- Nothing that was there has turned but one block. -/
def Frm (Bh:Nat) (W W':World):Prop:=W.heap.size≤W'.heap.size∧∀ k,k<W.heap.size→k≠Bh→W'.heap[k]?=W.heap[k]?
theorem Frm.refl (Bh:Nat) (W:World):Frm Bh W W:=⟨Nat.le_refl _,fun _ _ _=>rfl⟩
theorem Frm.alloc {Bh:Nat} {W W':World} (h:Frm Bh W W') (o:Obj):Frm Bh W (W'.alloc o) :=
 ⟨by have:=h.1;simp;omega,fun k hk hne=>((Gr.refl W').alloc o).heap k (by have:=h.1;omega) |>.trans (h.2 k hk hne)⟩
theorem frm_own {β:Type} (Bh:Nat) (W0:World):OwnFrom W0.heap.size (fun (_:β) W=>Frm Bh W0 W) :=
 fun _ X Y row hs hg hr=>⟨Nat.le_trans hs.1 hg.size,fun k hk hne=>(hg.block k (by have:=hs.1;omega) (fun e=>by have:=(hr k e.symm).1;omega)).trans (hs.2 k hk hne)⟩
/-- A table of the call's own reads as it did, whatever is done to two boxes of another type. -/
theorem tab_keep {B Bh Br:Nat} {e1 e2 T:TypeId} {W W':World} {row row':Array Value} {fr fr':Nat × Nat} {u:Value} {us:List Value} {t:List (List Int)} (hb:W.heap[Bh]?=some (.cells row T fr)) (hr:W.heap[Br]?=some (.cells row' T fr')) (h1:T≠e1) (h2:T≠e2)
  (hu:Own1 B e1 W u us) (ht:Tab1 B e2 W us t) (hW:∀ k,k<W.heap.size→k≠Bh→k≠Br→W'.heap[k]?=W.heap[k]?) (hn:t.length≤17592186044416):TabAt W'.heap.size W' u t:=by
 have hu':Own1 B e1 W' u us:=hu.keep fun k hk=>hW k (hu.typed hk).2.1 (fun e=>hu.not_box hb h1 (e ▸ hk)) (fun e=>hu.not_box hr h1 (e ▸ hk))
 have ht':Tab1 B e2 W' us t:=⟨ht.1,fun j l hl=>by
   obtain ⟨u',q1,q2,q3⟩:=ht.2 j l hl
   exact ⟨u',q1,q2.keep fun k hk=>hW k (q2.typed hk).2.1 (fun e=>q2.not_box hb h2 (e ▸ hk)) (fun e=>q2.not_box hr h2 (e ▸ hk)),q3⟩⟩
 exact ht'.tab hu' hn
/-- Two values own different blocks. -/
def Apart (u v:Value):Prop:=∀ k,u.ownBlock=some k→v.ownBlock≠some k
theorem Apart.symm {u v:Value} (h:Apart u v):Apart v u:=fun k hk e=>h k e hk
theorem heap_setCell_at {W:World} {B i:Nat} {row:Array Value} {T:TypeId} {fr:Nat × Nat} (v:Value) (h:W.heap[B]?=some (.cells row T fr)):(W.setCell ⟨B,i,none⟩ v).heap[B]?=some (.cells (row.setIfInBounds i v) T fr):=by
 obtain ⟨hlt,hk⟩:=Array.getElem?_eq_some_iff.1 h
 show (W.heap.modify B _)[B]?=_
 rw [Array.getElem?_eq_getElem (by rw [Array.size_modify];exact hlt),Array.getElem_modify_self,hk]
 rfl
/-- 'h.x = append(h.x, y)': what the walk owes behind the append's law. -/
theorem field_append {W w1:World} {n₀ Bh i:Nat} {T e:TypeId} {row:Array Value} {v v':Value} {xs ys:List Value} {tmp:Obj} (hb:W.heap[Bh]?=some (.cells row T (0,0))) (hT:T≠e) (hrow:Own1 n₀ e W v xs)
  (hown':Own1 n₀ e w1 v' ys) (hgrow:(W.alloc tmp).grownBy w1 v.ownBlock) (hat:v'.ownBlock=v.ownBlock∨v'.ownBlock=some (W.alloc tmp).heap.size) :
  w1.heap[Bh]?=some (.cells row T (0,0))∧(w1.setCell ⟨Bh,i,none⟩ v').heap[Bh]?=some (.cells (row.setIfInBounds i v') T (0,0))∧Own1 n₀ e (w1.setCell ⟨Bh,i,none⟩ v') v' ys∧KeepsOthers W (w1.setCell ⟨Bh,i,none⟩ v') ∧
   (∀ W0:World,Frm Bh W0 W→W0.heap.size≤n₀→Frm Bh W0 (w1.setCell ⟨Bh,i,none⟩ v'))∧(∀ (u:Value) (zs:List Value),Own1 n₀ e W u zs→Apart v u→Own1 n₀ e (w1.setCell ⟨Bh,i,none⟩ v') u zs∧Apart v' u)∧(∀ B,B≤n₀→B≤Bh→B≤W.heap.size→Below B W (w1.setCell ⟨Bh,i,none⟩ v'))∧(∀ (k:Nat) (c:Array Value) (t:TypeId),W.heap[k]?=some (.cells c t (0,0))→t≠e→k≠Bh→(w1.setCell ⟨Bh,i,none⟩ v').heap[k]?=some (.cells c t (0,0))):=by
 have hlt:Bh<W.heap.size:=(Array.getElem?_eq_some_iff.1 hb).1
 have ha:∀ k,k<W.heap.size→some k≠v.ownBlock→w1.heap[k]?=W.heap[k]?:=fun k hk hne=>(hgrow.block k (by simp;omega) hne).trans (((Gr.refl W).alloc tmp).heap k hk)
 have hb1:w1.heap[Bh]?=some (.cells row T (0,0)):=(ha Bh hlt (fun e'=>hrow.not_box hb hT e'.symm)).trans hb
 have hne':v'.ownBlock≠some Bh:=hown'.not_box hb1 hT
 have hst:∀ k,k≠Bh→(w1.setCell ⟨Bh,i,none⟩ v').heap[k]?=w1.heap[k]?:=fun k hk=>Below.heap_setCell w1 ⟨Bh,i,none⟩ v' k hk
 have hsz:W.heap.size≤(w1.setCell ⟨Bh,i,none⟩ v').heap.size:=by
  have h1:=hgrow.size
  have h2:=(KeepsWalks.setCell w1 ⟨Bh,i,none⟩ v').size
  simp at h1;omega
 refine ⟨hb1,heap_setCell_at v' hb1,hown'.keep fun k hk=>hst k (fun e'=>hne' (e' ▸ hk)),?_,?_,?_,?_,?_⟩
 ·refine ((KeepsOthers.alloc W tmp).trans (KeepsOthers.of_grownBy hgrow fun j o ej hj=>?_)).trans (KeepsOthers.setCell _ _ _)
  obtain ⟨-,-,cur,hc⟩:=(hrow.alloc tmp).typed ej
  rw [hc] at hj;cases hj;rfl
 ·intro W0 hF hn
  refine ⟨Nat.le_trans hF.1 hsz,fun k hk hne=>?_⟩
  rw [hst k hne,ha k (by have:=hF.1;omega) (fun e'=>by have:=(hrow.typed e'.symm).1;omega)]
  exact hF.2 k hk hne
 ·intro u zs hu hap
  have huk:∀ k,u.ownBlock=some k→(w1.setCell ⟨Bh,i,none⟩ v').heap[k]?=W.heap[k]?:=fun k hk=>by
   rw [hst k (fun e'=>hu.not_box hb hT (e' ▸ hk))]
   exact ha k (hu.typed hk).2.1 (fun e'=>hap k e'.symm hk)
  refine ⟨hu.keep huk,fun k hk e'=>?_⟩
  rcases hat with h | h
  ·exact hap k (h ▸ hk) e'
  ·rw [h] at hk
   have:=(hu.typed e').2.1
   simp at hk;omega
 ·intro B h1 h2 h3
  refine (((Below.refl B W).alloc h3 tmp).grown hgrow (by simp;omega) fun j ej=>?_).setCell (p:=⟨Bh,i,none⟩) h2 v'
  exact Nat.le_trans h1 (hrow.typed ej).1
 ·intro k c t hk ht hne
  rw [hst k hne,ha k (Array.getElem?_eq_some_iff.1 hk).1 (fun e'=>hrow.not_box hk ht e'.symm),hk]

set_option maxRecDepth 100000 in
set_option maxHeartbeats 8000000 in
theorem homes_any (v:Value) (f:Fn) (w:World) (hf:FnAt w.heap.size w v f) (hs:f.blocks.length≤100000) (hit:(Ir.items f).length≤1000000) (hne:Hid (∀ l ∈ f.blocks,l≠[])) :
  Calls Tryz.prog 115 #[v] w fun e w'=>∃ vb va vg,e=.returned (.agg #[.int .i64 f.params.length,vb,va,vg])∧IntsAt w'.heap.size w' vb (blks f)∧IntsAt w'.heap.size w' va (places f)∧TabAt w'.heap.size w' vg (Ref.graph f)∧Gr w w':=by
 obtain ⟨i0,hi,hz0,hz1,hz2⟩:=info_parts info_int
 have hf0:=hf
 have HG:Hid (∀ w1,Gr w w1→Calls Tryz.prog 59 #[v] w1 fun e w'=>∃ Ag n cg us,e=.returned (.slice Ag n cg)∧Hid (Own1 (w1.heap.size+1) 22 w' (.slice Ag n cg) us∧Tab1 (w1.heap.size+1) 3 w' us (Ref.graph f))∧Gr w1 w') :=
  fun w1 q=>(igraph_own v f w1 (hf.gr q) hs hne).mono fun _ _ ⟨u,us,h1,h2,h3,h4⟩=>by
   obtain ⟨Ag,cg,e⟩:=h2.form
   subst e
   exact ⟨Ag,_,cg,us,h1,⟨h2,h3⟩,h4⟩
 obtain ⟨vp,vs,vb,rfl,hp,hsl,hb⟩:=hf
 obtain ⟨Ap,cp,rfl,hp1,hp2,-⟩:=hp
 obtain ⟨As,cs,rfl,-,-,-⟩:=hsl
 obtain ⟨Ab,cb,rfl,-,-,-⟩:=hb
 refine (callsIn_wide (n:=5)).1 ?_
 refine callsIn_of_wp_marks Tryz.func115 rfl trivial ?_ rfl
 simp only [Tryz.ntmps115,List.size_toArray,List.length_cons,List.length_nil,Nat.reduceAdd,Nat.reduceSub,Array.replicate_succ,Array.replicate_zero,List.push_toArray,List.append_toArray,List.nil_append,List.cons_append]
 refine wpIn_wide.2 ?_
 obtain ⟨W,hW⟩:∃ W,(w.alloc (.cells #[.slice Ap f.params.length cp,.int .i64 f.ret,.slice As f.slots.length cs,.slice Ab f.blocks.length cb] 25)).alloc (.cells #[.int .i64 0,.slice none 0 0,.slice none 0 0,.slice none 0 0] 154)=W:=⟨_,rfl⟩
 have hB0:Gr w W:=by rw [← hW];exact ((Gr.refl w).alloc _).alloc _
 have hWs:W.heap.size=w.heap.size+2:=by rw [← hW];simp
 have g0:Gr (w.alloc (.cells #[.slice Ap f.params.length cp,.int .i64 f.ret,.slice As f.slots.length cs,.slice Ab f.blocks.length cb] 25)) W:=by rw [← hW];exact (Gr.refl _).alloc _
 have kp:Hid (∀ w',Gr W w'→(w'.cell? ⟨w.heap.size,0,none⟩=some (.slice Ap f.params.length cp)∧w'.cell? ⟨w.heap.size,1,none⟩=some (.int .i64 f.ret)∧w'.cell? ⟨w.heap.size,2,none⟩=some (.slice As f.slots.length cs)∧w'.cell? ⟨w.heap.size,3,none⟩=some (.slice Ab f.blocks.length cb))) :=
  fun w' q=>⟨(q.cell _ _ (by omega)).trans (cell_box _ _ 0 g0 rfl),(q.cell _ _ (by omega)).trans (cell_box _ _ 1 g0 rfl),(q.cell _ _ (by omega)).trans (cell_box _ _ 2 g0 rfl),(q.cell _ _ (by omega)).trans (cell_box _ _ 3 g0 rfl)⟩
 have kb:Hid (∀ w',Gr (W.alloc (.cells #[.int .i64 0,.slice none 0 0,.slice none 0 0,.slice none 0 0] 154)) w'→w'.heap[w.heap.size+2]?=some (.cells #[.int .i64 0,.slice none 0 0,.slice none 0 0,.slice none 0 0] 154 (0,0))) :=
  fun w' q=>(q.heap _ (by simp;omega)).trans (by rw [← hWs];exact heap_alloc_new W _)
 clear g0
 have HCA:Hid (∀ w1,Calls Tryz.prog 64 #[.agg #[.slice Ap f.params.length cp,.int .i64 f.ret,.slice As f.slots.length cs,.slice Ab f.blocks.length cb]] w1 fun e w' =>
     e=.returned (.func (.func 104) #[] #[.pointer (some ⟨w1.heap.size,0,none⟩)])∧w'=w1.alloc (.cells #[.slice Ap f.params.length cp,.int .i64 f.ret,.slice As f.slots.length cs,.slice Ab f.blocks.length cb] 25)) :=
  fun w1=>all_in f Ap As Ab _ _ _ cp cs cb w1
 have hres0:W.heap[w.heap.size+1]?=some (.cells #[.int .i64 0,.slice none 0 0,.slice none 0 0,.slice none 0 0] 154 (0,0)):=by rw [← hW];exact heap_alloc2_new w _ _
 go_wp2
 go_region_held3 (fun w'=>w'.cell? ⟨w.heap.size,0,none⟩=some (.slice Ap f.params.length cp)∧w'.cell? ⟨w.heap.size,1,none⟩=some (.int .i64 f.ret)∧w'.cell? ⟨w.heap.size,2,none⟩=some (.slice As f.slots.length cs)∧w'.cell? ⟨w.heap.size,3,none⟩=some (.slice Ab f.blocks.length cb)) (first | exact kp.out _ (Gr.refl W).drew | exact kp.out _ g3 | exact kp.out _ ((Gr.refl W).alloc _).drew | exact kp.out _ (g3.alloc _) | exact kp.out _ (((((g3.setCell (by show W.heap.size≤w.heap.size+2;omega) _).setCell (by show W.heap.size≤w.heap.size+2;omega) _).setCell (by show W.heap.size≤w.heap.size+2;omega) _).setCell (by show W.heap.size≤w.heap.size+2;omega) _)))
  (first
    | (go_at_call 59;refine (HG.out _ (hB0.trans (Gr.refl W).drew)).mono ?_;rintro e w3 ⟨Ag,ng,cg,us,rfl,HTab,g30⟩;have g3:=(Gr.refl W).drew.trans g30)
    | (go_at_call 59;refine (HG.out _ (hB0.trans ((Gr.refl W).alloc _).drew)).mono ?_;rintro e w3 ⟨Ag,ng,cg,us,rfl,HTab,g30⟩;have g3:=((Gr.refl W).alloc _).drew.trans g30;have hbx:=kb.out _ ((Gr.refl _).drew.trans g30);have x0:=cell_of_row _ _ 0 _ _ _ hbx;have x1:=cell_of_row _ _ 1 _ _ _ hbx;have x2:=cell_of_row _ _ 2 _ _ _ hbx;have x3:=cell_of_row _ _ 3 _ _ _ hbx;have y0:=frozen_of_row _ _ 0 _ _ hbx;have y1:=frozen_of_row _ _ 1 _ _ hbx;have y2:=frozen_of_row _ _ 2 _ _ hbx;have y3:=frozen_of_row _ _ 3 _ _ hbx))
 ·-- the box is laid behind the graph
  have hb:(w3.alloc (.cells #[.int .i64 f.params.length,.slice none 0 0,.slice none 0 0,.slice Ag ng cg] 154)).heap[w3.heap.size]?=some (.cells #[.int .i64 f.params.length,.slice none 0 0,.slice none 0 0,.slice Ag ng cg] 154 (0,0)):=heap_alloc_new w3 _
  have HTX:Hid (∀ W',(∀ k,k<(w3.alloc (.cells #[.int .i64 f.params.length,.slice none 0 0,.slice none 0 0,.slice Ag ng cg] 154)).heap.size→k≠w3.heap.size→k≠w.heap.size+1→W'.heap[k]?=(w3.alloc (.cells #[.int .i64 f.params.length,.slice none 0 0,.slice none 0 0,.slice Ag ng cg] 154)).heap[k]?)→TabAt W'.heap.size W' (.slice Ag ng cg) (Ref.graph f)):=by
   intro W' hF
   obtain ⟨q1,q2⟩:=HTab.out
   exact tab_keep hb (((g3.alloc _).heap _ (by omega)).trans hres0) (by decide) (by decide) (q1.alloc _) (q2.gr ((Gr.refl _).alloc _)) hF (by simp [Ref.graph];omega)
  have hgV:Gr W (w3.alloc (.cells #[.int .i64 f.params.length,.slice none 0 0,.slice none 0 0,.slice Ag ng cg] 154)):=g3.alloc _
  have hne1:w.heap.size+1≠w3.heap.size:=by have:=g3.size;omega
  have hBhw:w.heap.size≤w3.heap.size:=by have:=g3.size;omega
  obtain ⟨Bh,hBh⟩:∃ Bh,w3.heap.size=Bh:=⟨_,rfl⟩
  obtain ⟨V,hV⟩:∃ V,w3.alloc (.cells #[.int .i64 f.params.length,.slice none 0 0,.slice none 0 0,.slice Ag ng cg] 154)=V:=⟨_,rfl⟩
  rw [hV] at hb HTX hgV ⊢
  rw [hBh] at hb HTX hne1 hBhw ⊢
  clear HTab g30 g3 hBh hV
  obtain ⟨k0,k1,k2,k3⟩:=kp.out V hgV
  have hres:V.heap[w.heap.size+1]?=some (.cells #[.int .i64 0,.slice none 0 0,.slice none 0 0,.slice none 0 0] 154 (0,0)):=(hgV.heap _ (by omega)).trans hres0
  clear hW
  go_wp2_with (go_at_call 64;refine (HCA.out _).mono ?_;rintro e w2 ⟨rfl,rfl⟩)
  obtain ⟨W0,hW0⟩:∃ W0,V.alloc (.cells #[.slice Ap f.params.length cp,.int .i64 f.ret,.slice As f.slots.length cs,.slice Ab f.blocks.length cb] 25)=W0:=⟨_,rfl⟩
  have hsz:W0.heap.size≤V.heap.size+1∧V.heap.size+1≤W0.heap.size:=by rw [← hW0];simp
  have hBhV:Bh<V.heap.size:=(Array.getElem?_eq_some_iff.1 hb).1
  have hgw:Gr w V:=hB0.trans hgV
  have hgw0:Gr w W0:=by rw [← hW0];exact hgw.alloc _
  have hsV:=hgV.size
  have hb0:W0.heap[Bh]?=some (.cells #[.int .i64 f.params.length,.slice none 0 0,.slice none 0 0,.slice Ag ng cg] 154 (0,0)):=by rw [← hW0];exact (((Gr.refl V).alloc _).heap Bh hBhV).trans hb
  have hF0:Frm Bh V W0:=by rw [← hW0];exact (Frm.refl _ _).alloc _
  have hbx0:∀ o,W0.cell? ⟨V.heap.size,o,none⟩=(#[.slice Ap f.params.length cp,.int .i64 f.ret,.slice As f.slots.length cs,.slice Ab f.blocks.length cb]:Array Value)[o]?:=by
   intro o;rw [← hW0];exact cell_of_row _ _ _ _ _ _ (heap_alloc_new V _)
  rw [hW0]
  have HS:=all_stops (5-1) (by omega) V.heap.size w.heap.size f _ _ _ w W0 hf0 (Nat.le_refl _) hgw0 hs (by omega) (hbx0 0) (hbx0 3)
  clear k0 k1 k2 k3 hbx0
  refine (wpIn_wide (n:=5)).1 ?_
  refine wpIn_rangeFunc_ownH (n:=5) rfl (by omega) (gf:=104) (lb:=#[.pointer (some ⟨V.heap.size,0,none⟩)]) rfl trivial (enters_of Tryz.func104 (by kernel_rfl) rfl) HS belowK_t (belowK_b (by omega)) (Below.refl _ _) (fun _=>rfl)
   (fun pre Wr=>(∃ vb va,Wr.heap[Bh]?=some (.cells #[.int .i64 f.params.length,vb,va,.slice Ag ng cg] 154 (0,0))∧Own1 W0.heap.size 3 Wr vb (((prj pre).map fun it=>(it.blk:Int)).map (Value.int .i64))∧Own1 W0.heap.size 3 Wr va (((prj pre).map fun it=>(it.pos:Int)).map (Value.int .i64))∧Apart vb va)∧(Below w.heap.size w Wr∧Frm Bh V Wr∧W0.heap.size≤Wr.heap.size))
   (fun _ _ _=>False)
   (OwnFrom.and (OwnFrom.ex fun vb=>OwnFrom.ex fun va=>OwnFrom.and (cells_own _ _ _) (OwnFrom.and (own1_own _ _ _ _ _) (OwnFrom.and (own1_own _ _ _ _ _) (ownFrom_pure _ _)))) (OwnFrom.and (ownFrom_below (Nat.le_refl _) (by omega)) (OwnFrom.and (fun s X Y row h hg hr=>frm_own Bh V s X Y row h hg (fun r e=>⟨by have:=(hr r e).1;omega,(hr r e).2⟩)) (fun _ _ _ _ h hg _=>Nat.le_trans h hg.size))))
   (fun _ _ _ _ _ hs _ _=>hs)
   ⟨⟨_,_,hb0,Own1.nil _ _ _,Own1.nil _ _ _,fun k hk=>by simp [Value.ownBlock] at hk⟩,hgw0,hF0,Nat.le_refl _⟩
   (fun x a' Wr=>∃ Bx,W0.heap.size≤Bx∧Wr.heap[Bx]?=some (.cells x.1.row 111 (0,0))∧a'={ tmps:=#[.agg #[.slice Ap f.params.length cp,.int .i64 f.ret,.slice As f.slots.length cs,.slice Ab f.blocks.length cb],.pointer (some ⟨w.heap.size,0,none⟩),.pointer (some ⟨w.heap.size+1,0,none⟩),.pointer (some ⟨Bh,0,none⟩),.pointer (some ⟨Bx,0,none⟩),.pointer (some ⟨w.heap.size,0,none⟩),.slice Ap f.params.length cp,.int .i64 f.params.length,.agg #[.slice Ap f.params.length cp,.int .i64 f.ret,.slice As f.slots.length cs,.slice Ab f.blocks.length cb],.slice Ag ng cg,.agg #[.int .i64 f.params.length,.slice none 0 0,.slice none 0 0,.slice Ag ng cg],.agg #[.slice Ap f.params.length cp,.int .i64 f.ret,.slice As f.slots.length cs,.slice Ab f.blocks.length cb],.func (.func 104) #[] #[.pointer (some ⟨V.heap.size,0,none⟩)],x.1.enc,undef,undef,undef,undef,undef,undef,undef,undef,undef,undef,undef,undef,undef,undef,undef],defers:=[] })
   ?hAx ?assign ?body ?done ?stop
  case hAx =>
   intro x a' s X Y row h hg hr
   obtain ⟨Bx,h1,h2,h3⟩:=h
   refine ⟨Bx,h1,(hg.block Bx (Array.getElem?_eq_some_iff.1 h2).1 (fun e=>?_)).trans h2,h3⟩
   obtain ⟨-,o,ho,hc⟩:=hr Bx e.symm
   rw [h2] at ho;cases ho;cases hc
  case assign =>
   rintro l pre ⟨⟨⟨xi,num,blk,pos⟩,aa,ca,ta,ct⟩,hgood⟩ Wr K ⟨⟨vb,va,hbr,hvb,hva,hap⟩,hB,hF,hsW⟩ hK
   simp only [ItV.enc]
   gi_wp2
   exact hK _ _ ((KeepsOthers.alloc _ _).from _) ((Below.refl _ Wr).alloc hB.size _) ⟨⟨vb,va,((Gr.refl Wr).alloc _).heap Bh (by omega) |>.trans hbr,hvb.alloc _,hva.alloc _,hap⟩,hB.alloc hB.size _,hF.alloc _,by simp;omega⟩ ⟨Wr.heap.size,hsW,heap_alloc_new Wr _,rfl⟩
  case body =>
   rintro l pre ⟨⟨⟨xi,num,blk,pos⟩,aa,ca,ta,ct⟩,hgood⟩ a' Wr hl ⟨r,hr0⟩ ⟨⟨vb,va,hbr,hvb,hva,hap⟩,hB,hF,hsW⟩ ⟨Bx,hBx,hrow,rfl⟩ hlt
   have hplen:pre.length=(prj pre).length:=by simp [prj]
   have hl1:(((prj pre).map fun it=>(it.blk:Int)).map (Value.int .i64)).length≤2000000:=by simp;omega
   have hl2:(((prj pre).map fun it=>(it.pos:Int)).map (Value.int .i64)).length≤2000000:=by simp;omega
   have HL1:Hid (((prj (pre++[⟨⟨⟨xi,num,blk,pos⟩,aa,ca,ta,ct⟩,hgood⟩])).map fun it=>(it.blk:Int)).map (Value.int .i64)=((prj pre).map fun it=>(it.blk:Int)).map (Value.int .i64)++[.int .i64 blk]):=by show _=_;rw [prj_snoc];simp
   have HL2:Hid (((prj (pre++[⟨⟨⟨xi,num,blk,pos⟩,aa,ca,ta,ct⟩,hgood⟩])).map fun it=>(it.pos:Int)).map (Value.int .i64)=((prj pre).map fun it=>(it.pos:Int)).map (Value.int .i64)++[.int .i64 pos]):=by show _=_;rw [prj_snoc];simp
   obtain ⟨L1,hL1⟩:∃ L,((prj pre).map fun it=>(it.blk:Int)).map (Value.int .i64)=L:=⟨_,rfl⟩
   obtain ⟨L2,hL2⟩:∃ L,((prj pre).map fun it=>(it.pos:Int)).map (Value.int .i64)=L:=⟨_,rfl⟩
   rw [hL1] at hvb HL1 hl1
   rw [hL2] at hva HL2 hl2
   have hwx:∀ o,Wr.cell? ⟨Bx,o,none⟩=(ItV.row ⟨⟨xi,num,blk,pos⟩,aa,ca,ta,ct⟩)[o]?:=fun o=>cell_of_row Wr Bx o _ _ _ hrow
   have hx7:Wr.cell? ⟨Bx,7,none⟩=some (.int .i64 blk):=hwx 7
   have hr1:Wr.cell? ⟨Bh,1,none⟩=some vb:=cell_of_row _ _ 1 _ _ _ hbr
   have hBxlt:Bx<Wr.heap.size:=(Array.getElem?_eq_some_iff.1 hrow).1
   have hsWw:=hB.size
   have hnx:Bx≠Bh:=by omega
   clear hwx hL1 hL2 hplen hlt
   gi_wp2_with (first | (gi_at_builtin;refine wpListIn_append_own_at _ rfl (.tmp 15) (.tmp 18) 22 rfl W0.heap.size 3 i0 (.int .i64 0) 1 8 Tryz.underlying22 hi hz0 hz1 hz2 rfl (by decide) _ _ _ rfl (hvb.alloc _) ⟨Wr.heap.size,0,none⟩ 1 1 [.int .i64 blk] rfl rfl (cell_one_new _ _ _) (by simp [Value.oneCell']) (by simp only [maxLen];omega) (by omega) (by simp;omega) ?_;intro v1 w1 hown1 hgrow1 _ hat1;obtain ⟨g1,cap1,rfl⟩:=ownsRow_succ hown1;obtain ⟨m1,m2,m3,m4,m5,m6,m7,m8⟩:=field_append (i:=1) (n₀:=W0.heap.size) (ys:=L1++[.int .i64 blk]) hbr (by decide) hvb (by unfold Own1;rw [List.length_append];exact hown1) hgrow1 hat1;obtain ⟨n1,n2⟩:=m6 _ _ hva hap;have c1:=cell_of_row _ _ 1 _ _ _ m1;have f1:=frozen_of_row _ _ 1 _ _ m1;obtain ⟨w1s,hw1s⟩:∃ w1s,w1.setCell ⟨Bh,1,none⟩ (.slice (some ⟨g1,0,none⟩) (L1.length+1) cap1)=w1s:=⟨_,rfl⟩;have p1:=m7 w.heap.size (by omega) (by omega) (by omega);rw [hw1s] at m2 m3 m4 m5 n1 p1 m8;clear m1 m6 m7;have hF1:=m5 V hF (by omega);have hr2:w1s.cell? ⟨Bh,2,none⟩=some va:=cell_of_row _ _ 2 _ _ _ m2;have hsz1:=m4.size;have hx8:w1s.cell? ⟨Bx,8,none⟩=some (.int .i64 pos):=cell_of_row _ _ 8 _ _ _ (m8 Bx _ _ hrow (by decide) hnx);clear m5 m8) | (gi_at_builtin;refine wpListIn_append_own_at _ rfl (.tmp 22) (.tmp 25) 22 rfl W0.heap.size 3 i0 (.int .i64 0) 1 8 Tryz.underlying22 hi hz0 hz1 hz2 rfl (by decide) _ _ _ rfl (n1.alloc _) ⟨w1s.heap.size,0,none⟩ 1 1 [.int .i64 pos] rfl rfl (cell_one_new _ _ _) (by simp [Value.oneCell']) (by simp only [maxLen];omega) (by omega) (by simp;omega) ?_;intro v2 w2 hown2 hgrow2 _ hat2;obtain ⟨g2,cap2,rfl⟩:=ownsRow_succ hown2;obtain ⟨k1,k2,k3,k4,k5,k6,k7,-⟩:=field_append (i:=2) (n₀:=W0.heap.size) (ys:=L2++[.int .i64 pos]) m2 (by decide) n1 (by unfold Own1;rw [List.length_append];exact hown2) hgrow2 hat2;obtain ⟨j1,j2⟩:=k6 _ _ m3 n2.symm;have c2:=cell_of_row _ _ 2 _ _ _ k1;have f2:=frozen_of_row _ _ 2 _ _ k1;obtain ⟨w2s,hw2s⟩:∃ w2s,w2.setCell ⟨Bh,2,none⟩ (.slice (some ⟨g2,0,none⟩) (L2.length+1) cap2)=w2s:=⟨_,rfl⟩;have p2:=k7 w.heap.size (by omega) (by omega) (by omega);have hF2:=k5 V hF1 (by omega);rw [hw2s] at k2 k3 k4 hF2 j1 p2;clear k1 k5 k6 k7))
   have hs2:=k4.size
   refine ⟨(m4.trans k4).from _,p1.trans p2,⟨_,_,k2,?_,?_,j2.symm⟩,hB.trans (p1.trans p2),hF2,by omega⟩
   ·rw [← HL1.out] at j1;simpa using j1
   ·rw [← HL2.out] at k3;simpa using k3
  case done =>
   rintro D ys Wr hD hys ⟨⟨vb,va,hbr,hvb,hva,hap⟩,hB,hF,hsW⟩ hKD
   rw [hys] at hvb hva
   have fb:∃ A c,vb=.slice A (Ir.items f).length c:=by obtain ⟨A,c,e⟩:=hvb.form;exact ⟨A,c,by rw [e];simp⟩
   have fa:∃ A c,va=.slice A (Ir.items f).length c:=by obtain ⟨A,c,e⟩:=hva.form;exact ⟨A,c,by rw [e];simp⟩
   obtain ⟨Abb,cbb,rfl⟩:=fb
   obtain ⟨Aba,cba,rfl⟩:=fa
   clear hys
   have hresr:Wr.heap[w.heap.size+1]?=some (.cells #[.int .i64 0,.slice none 0 0,.slice none 0 0,.slice none 0 0] 154 (0,0)):=(hF.2 _ (by omega) hne1).trans hres
   have r0:=cell_of_row _ _ 0 _ _ _ hresr
   have r1:=cell_of_row _ _ 1 _ _ _ hresr
   have r2:=cell_of_row _ _ 2 _ _ _ hresr
   have r3:=cell_of_row _ _ 3 _ _ _ hresr
   have z0:=frozen_of_row _ _ 0 _ _ hresr
   have z1:=frozen_of_row _ _ 1 _ _ hresr
   have z2:=frozen_of_row _ _ 2 _ _ hresr
   have z3:=frozen_of_row _ _ 3 _ _ hresr
   have q0:=cell_of_row _ _ 0 _ _ _ hbr
   have q1:=cell_of_row _ _ 1 _ _ _ hbr
   have q2:=cell_of_row _ _ 2 _ _ _ hbr
   have q3:=cell_of_row _ _ 3 _ _ _ hbr
   have hD1:D≠w.heap.size+1:=fun e=>by rw [e,hresr] at hKD;cases hKD
   clear hf0
   go_wp2
   obtain ⟨Wf,hWf⟩:∃ Wf,((((Wr.setCell ⟨w.heap.size+1,0,none⟩ (.int .i64 f.params.length)).setCell ⟨w.heap.size+1,1,none⟩ (.slice Abb (Ir.items f).length cbb)).setCell ⟨w.heap.size+1,2,none⟩ (.slice Aba (Ir.items f).length cba)).setCell ⟨w.heap.size+1,3,none⟩ (.slice Ag ng cg))=Wf:=⟨_,rfl⟩
   have hx:=heap_setCell_at (i:=3) (.slice Ag ng cg) (heap_setCell_at (i:=2) (.slice Aba (Ir.items f).length cba) (heap_setCell_at (i:=1) (.slice Abb (Ir.items f).length cbb) (heap_setCell_at (i:=0) (.int .i64 f.params.length) hresr)))
   have hother:∀ k,k≠w.heap.size+1→Wf.heap[k]?=Wr.heap[k]?:=by
    intro k hk
    rw [← hWf]
    rw [Below.heap_setCell _ _ _ k hk,Below.heap_setCell _ _ _ k hk,Below.heap_setCell _ _ _ k hk,Below.heap_setCell _ _ _ k hk]
   have hBf:Below w.heap.size Wr Wf:=by
    rw [← hWf]
    exact ((((Below.refl _ Wr).setCell (p:=⟨w.heap.size+1,0,none⟩) (by show _≤w.heap.size+1;omega) _).setCell (p:=⟨w.heap.size+1,1,none⟩) (by show _≤w.heap.size+1;omega) _).setCell (p:=⟨w.heap.size+1,2,none⟩) (by show _≤w.heap.size+1;omega) _).setCell (p:=⟨w.heap.size+1,3,none⟩) (by show _≤w.heap.size+1;omega) _
   rw [hWf] at hx
   have hKD':Wf.heap[D]?=some (.deferred (some [])):=(hother D hD1).trans hKD
   rw [hWf]
   have hB9:Below w.heap.size Wf (Wf.putObj D (.deferred none)):=belowK_b (w:=w) (Nat.le_refl _) Wf D _ _ (by omega) hKD' rfl rfl
   have hx9:(Wf.putObj D (.deferred none)).heap[w.heap.size+1]?=some (.cells #[.int .i64 f.params.length,.slice Abb (Ir.items f).length cbb,.slice Aba (Ir.items f).length cba,.slice Ag ng cg] 154 (0,0)):=(World.putObj_heap_other (fun e=>hD1 e.symm)).trans hx
   have ho9:∀ k,k≠w.heap.size+1→k≠D→(Wf.putObj D (.deferred none)).heap[k]?=Wr.heap[k]?:=fun k h1 h2=>(World.putObj_heap_other h2).trans (hother k h1)
   have hs9:(Wf.putObj D (.deferred none)).heap.size=Wr.heap.size:=by rw [World.putObj_size,← hWf];simp
   refine ⟨by simp,.inl ⟨_,_,rfl,run_takeDeferred hKD',?_⟩⟩
   obtain ⟨W9,hW9⟩:∃ W9,Wf.putObj D (.deferred none)=W9:=⟨_,rfl⟩
   rw [hW9] at hB9 hx9 ho9 hs9 ⊢
   have s0:W9.cell? ⟨w.heap.size+1,0,none⟩=some (.int .i64 f.params.length):=cell_of_row _ _ 0 _ _ _ hx9
   have s1:W9.cell? ⟨w.heap.size+1,1,none⟩=some (.slice Abb (Ir.items f).length cbb):=cell_of_row _ _ 1 _ _ _ hx9
   have s2:W9.cell? ⟨w.heap.size+1,2,none⟩=some (.slice Aba (Ir.items f).length cba):=cell_of_row _ _ 2 _ _ _ hx9
   have s3:W9.cell? ⟨w.heap.size+1,3,none⟩=some (.slice Ag ng cg):=cell_of_row _ _ 3 _ _ _ hx9
   have hvb9:Own1 W0.heap.size 3 W9 (.slice Abb (Ir.items f).length cbb) ((blks f).map (Value.int .i64)):=hvb.keep fun k hk=>by
    obtain ⟨t1,t2,cur,t3⟩:=hvb.typed hk
    exact ho9 k (by omega) (fun e=>by rw [e,hKD] at t3;cases t3)
   have hva9:Own1 W0.heap.size 3 W9 (.slice Aba (Ir.items f).length cba) ((places f).map (Value.int .i64)):=hva.keep fun k hk=>by
    obtain ⟨t1,t2,cur,t3⟩:=hva.typed hk
    exact ho9 k (by omega) (fun e=>by rw [e,hKD] at t3;cases t3)
   refine ⟨.agg #[.int .i64 f.params.length,.slice Abb (Ir.items f).length cbb,.slice Aba (Ir.items f).length cba,.slice Ag ng cg],(by clear hother hx hBf ho9 hs9 hB9 hx9 hvb9 hva9 hKD hKD';simp [results,Tryz.results115,go_sem,s0,s1,s2,s3]),_,_,_,rfl,?_,?_,?_,?_⟩
   ·exact hvb9.ints (by simp [blks];omega)
   ·exact hva9.ints (by simp [places];omega)
   ·refine HTX.out W9 fun k h1 h2 h3=>?_
    exact (ho9 k h3 (by omega)).trans (hF.2 k h1 h2)
   ·exact hB.trans (hBf.trans hB9)
  case stop =>
   rintro D c pre Wr _ _ h _
   exact h.elim
 ·have hb0:=heap_setCell_at (i:=3) (.slice Ag ng cg) (heap_setCell_at (i:=2) (.slice none 0 0) (heap_setCell_at (i:=1) (.slice none 0 0) (heap_setCell_at (i:=0) (.int .i64 f.params.length) hbx)))
  have hgV:Gr W ((((w3.setCell ⟨w.heap.size+2,0,none⟩ (.int .i64 f.params.length)).setCell ⟨w.heap.size+2,1,none⟩ (.slice none 0 0)).setCell ⟨w.heap.size+2,2,none⟩ (.slice none 0 0)).setCell ⟨w.heap.size+2,3,none⟩ (.slice Ag ng cg)):=by
   iterate 4 refine Gr.setCell ?_ (by show W.heap.size≤w.heap.size+2;omega) _
   exact g3
  obtain ⟨V,hV⟩:∃ V,((((w3.setCell ⟨w.heap.size+2,0,none⟩ (.int .i64 f.params.length)).setCell ⟨w.heap.size+2,1,none⟩ (.slice none 0 0)).setCell ⟨w.heap.size+2,2,none⟩ (.slice none 0 0)).setCell ⟨w.heap.size+2,3,none⟩ (.slice Ag ng cg))=V:=⟨_,rfl⟩
  have hF0:∀ k,k≠w.heap.size+2→V.heap[k]?=w3.heap[k]?:=by
   intro k hk
   rw [← hV]
   rw [Below.heap_setCell _ _ _ k hk,Below.heap_setCell _ _ _ k hk,Below.heap_setCell _ _ _ k hk,Below.heap_setCell _ _ _ k hk]
  rw [hV] at hb0 hgV ⊢
  have hb:V.heap[w.heap.size+2]?=some (.cells #[.int .i64 f.params.length,.slice none 0 0,.slice none 0 0,.slice Ag ng cg] 154 (0,0)):=hb0
  have HTX:Hid (∀ W',(∀ k,k<V.heap.size→k≠w.heap.size+2→k≠w.heap.size+1→W'.heap[k]?=V.heap[k]?)→TabAt W'.heap.size W' (.slice Ag ng cg) (Ref.graph f)):=by
   intro W' hF
   obtain ⟨q1,q2⟩:=HTab.out
   have r1:Own1 ((W.alloc (.cells #[.int .i64 0,.slice none 0 0,.slice none 0 0,.slice none 0 0] 154)).drew.heap.size+1) 22 V (.slice Ag ng cg) us:=q1.keep fun k hk=>hF0 k (fun e=>q1.not_box hbx (by decide) (e ▸ hk))
   have r2:Tab1 ((W.alloc (.cells #[.int .i64 0,.slice none 0 0,.slice none 0 0,.slice none 0 0] 154)).drew.heap.size+1) 3 V us (Ref.graph f):=⟨q2.1,fun j l hl=>by
     obtain ⟨u',p1,p2,p3⟩:=q2.2 j l hl
     exact ⟨u',p1,p2.keep fun k hk=>hF0 k (fun e=>p2.not_box hbx (by decide) (e ▸ hk)),p3⟩⟩
   exact tab_keep hb ((hgV.heap _ (by omega)).trans hres0) (by decide) (by decide) r1 r2 hF (by simp [Ref.graph];omega)
  have hne1:w.heap.size+1≠w.heap.size+2:=by omega
  have hBhw:w.heap.size≤w.heap.size+2:=by omega
  clear x0 x1 x2 x3 y0 y1 y2 y3 hb0 hF0 hV hbx HTab g30 g3
  obtain ⟨Bh,hBh⟩:∃ Bh,w.heap.size+2=Bh:=⟨_,rfl⟩
  rw [hBh] at hb HTX hne1 hBhw ⊢
  clear hBh
  obtain ⟨k0,k1,k2,k3⟩:=kp.out V hgV
  have hres:V.heap[w.heap.size+1]?=some (.cells #[.int .i64 0,.slice none 0 0,.slice none 0 0,.slice none 0 0] 154 (0,0)):=(hgV.heap _ (by omega)).trans hres0
  clear hW
  go_wp2_with (go_at_call 64;refine (HCA.out _).mono ?_;rintro e w2 ⟨rfl,rfl⟩)
  obtain ⟨W0,hW0⟩:∃ W0,V.alloc (.cells #[.slice Ap f.params.length cp,.int .i64 f.ret,.slice As f.slots.length cs,.slice Ab f.blocks.length cb] 25)=W0:=⟨_,rfl⟩
  have hsz:W0.heap.size≤V.heap.size+1∧V.heap.size+1≤W0.heap.size:=by rw [← hW0];simp
  have hBhV:Bh<V.heap.size:=(Array.getElem?_eq_some_iff.1 hb).1
  have hgw:Gr w V:=hB0.trans hgV
  have hgw0:Gr w W0:=by rw [← hW0];exact hgw.alloc _
  have hsV:=hgV.size
  have hb0:W0.heap[Bh]?=some (.cells #[.int .i64 f.params.length,.slice none 0 0,.slice none 0 0,.slice Ag ng cg] 154 (0,0)):=by rw [← hW0];exact (((Gr.refl V).alloc _).heap Bh hBhV).trans hb
  have hF0:Frm Bh V W0:=by rw [← hW0];exact (Frm.refl _ _).alloc _
  have hbx0:∀ o,W0.cell? ⟨V.heap.size,o,none⟩=(#[.slice Ap f.params.length cp,.int .i64 f.ret,.slice As f.slots.length cs,.slice Ab f.blocks.length cb]:Array Value)[o]?:=by
   intro o;rw [← hW0];exact cell_of_row _ _ _ _ _ _ (heap_alloc_new V _)
  rw [hW0]
  have HS:=all_stops (5-1) (by omega) V.heap.size w.heap.size f _ _ _ w W0 hf0 (Nat.le_refl _) hgw0 hs (by omega) (hbx0 0) (hbx0 3)
  clear k0 k1 k2 k3 hbx0
  refine (wpIn_wide (n:=5)).1 ?_
  refine wpIn_rangeFunc_ownH (n:=5) rfl (by omega) (gf:=104) (lb:=#[.pointer (some ⟨V.heap.size,0,none⟩)]) rfl trivial (enters_of Tryz.func104 (by kernel_rfl) rfl) HS belowK_t (belowK_b (by omega)) (Below.refl _ _) (fun _=>rfl)
   (fun pre Wr=>(∃ vb va,Wr.heap[Bh]?=some (.cells #[.int .i64 f.params.length,vb,va,.slice Ag ng cg] 154 (0,0))∧Own1 W0.heap.size 3 Wr vb (((prj pre).map fun it=>(it.blk:Int)).map (Value.int .i64))∧Own1 W0.heap.size 3 Wr va (((prj pre).map fun it=>(it.pos:Int)).map (Value.int .i64))∧Apart vb va)∧(Below w.heap.size w Wr∧Frm Bh V Wr∧W0.heap.size≤Wr.heap.size))
   (fun _ _ _=>False)
   (OwnFrom.and (OwnFrom.ex fun vb=>OwnFrom.ex fun va=>OwnFrom.and (cells_own _ _ _) (OwnFrom.and (own1_own _ _ _ _ _) (OwnFrom.and (own1_own _ _ _ _ _) (ownFrom_pure _ _)))) (OwnFrom.and (ownFrom_below (Nat.le_refl _) (by omega)) (OwnFrom.and (fun s X Y row h hg hr=>frm_own Bh V s X Y row h hg (fun r e=>⟨by have:=(hr r e).1;omega,(hr r e).2⟩)) (fun _ _ _ _ h hg _=>Nat.le_trans h hg.size))))
   (fun _ _ _ _ _ hs _ _=>hs)
   ⟨⟨_,_,hb0,Own1.nil _ _ _,Own1.nil _ _ _,fun k hk=>by simp [Value.ownBlock] at hk⟩,hgw0,hF0,Nat.le_refl _⟩
   (fun x a' Wr=>∃ Bx,W0.heap.size≤Bx∧Wr.heap[Bx]?=some (.cells x.1.row 111 (0,0))∧a'={ tmps:=#[.agg #[.slice Ap f.params.length cp,.int .i64 f.ret,.slice As f.slots.length cs,.slice Ab f.blocks.length cb],.pointer (some ⟨w.heap.size,0,none⟩),.pointer (some ⟨w.heap.size+1,0,none⟩),.pointer (some ⟨Bh,0,none⟩),.pointer (some ⟨Bx,0,none⟩),.pointer (some ⟨w.heap.size,0,none⟩),.slice Ap f.params.length cp,.int .i64 f.params.length,.agg #[.slice Ap f.params.length cp,.int .i64 f.ret,.slice As f.slots.length cs,.slice Ab f.blocks.length cb],.slice Ag ng cg,.agg #[.int .i64 f.params.length,.slice none 0 0,.slice none 0 0,.slice Ag ng cg],.agg #[.slice Ap f.params.length cp,.int .i64 f.ret,.slice As f.slots.length cs,.slice Ab f.blocks.length cb],.func (.func 104) #[] #[.pointer (some ⟨V.heap.size,0,none⟩)],x.1.enc,undef,undef,undef,undef,undef,undef,undef,undef,undef,undef,undef,undef,undef,undef,undef],defers:=[] })
   ?hAx ?assign ?body ?done ?stop
  case hAx =>
   intro x a' s X Y row h hg hr
   obtain ⟨Bx,h1,h2,h3⟩:=h
   refine ⟨Bx,h1,(hg.block Bx (Array.getElem?_eq_some_iff.1 h2).1 (fun e=>?_)).trans h2,h3⟩
   obtain ⟨-,o,ho,hc⟩:=hr Bx e.symm
   rw [h2] at ho;cases ho;cases hc
  case assign =>
   rintro l pre ⟨⟨⟨xi,num,blk,pos⟩,aa,ca,ta,ct⟩,hgood⟩ Wr K ⟨⟨vb,va,hbr,hvb,hva,hap⟩,hB,hF,hsW⟩ hK
   simp only [ItV.enc]
   gi_wp2
   exact hK _ _ ((KeepsOthers.alloc _ _).from _) ((Below.refl _ Wr).alloc hB.size _) ⟨⟨vb,va,((Gr.refl Wr).alloc _).heap Bh (by omega) |>.trans hbr,hvb.alloc _,hva.alloc _,hap⟩,hB.alloc hB.size _,hF.alloc _,by simp;omega⟩ ⟨Wr.heap.size,hsW,heap_alloc_new Wr _,rfl⟩
  case body =>
   rintro l pre ⟨⟨⟨xi,num,blk,pos⟩,aa,ca,ta,ct⟩,hgood⟩ a' Wr hl ⟨r,hr0⟩ ⟨⟨vb,va,hbr,hvb,hva,hap⟩,hB,hF,hsW⟩ ⟨Bx,hBx,hrow,rfl⟩ hlt
   have hplen:pre.length=(prj pre).length:=by simp [prj]
   have hl1:(((prj pre).map fun it=>(it.blk:Int)).map (Value.int .i64)).length≤2000000:=by simp;omega
   have hl2:(((prj pre).map fun it=>(it.pos:Int)).map (Value.int .i64)).length≤2000000:=by simp;omega
   have HL1:Hid (((prj (pre++[⟨⟨⟨xi,num,blk,pos⟩,aa,ca,ta,ct⟩,hgood⟩])).map fun it=>(it.blk:Int)).map (Value.int .i64)=((prj pre).map fun it=>(it.blk:Int)).map (Value.int .i64)++[.int .i64 blk]):=by show _=_;rw [prj_snoc];simp
   have HL2:Hid (((prj (pre++[⟨⟨⟨xi,num,blk,pos⟩,aa,ca,ta,ct⟩,hgood⟩])).map fun it=>(it.pos:Int)).map (Value.int .i64)=((prj pre).map fun it=>(it.pos:Int)).map (Value.int .i64)++[.int .i64 pos]):=by show _=_;rw [prj_snoc];simp
   obtain ⟨L1,hL1⟩:∃ L,((prj pre).map fun it=>(it.blk:Int)).map (Value.int .i64)=L:=⟨_,rfl⟩
   obtain ⟨L2,hL2⟩:∃ L,((prj pre).map fun it=>(it.pos:Int)).map (Value.int .i64)=L:=⟨_,rfl⟩
   rw [hL1] at hvb HL1 hl1
   rw [hL2] at hva HL2 hl2
   have hwx:∀ o,Wr.cell? ⟨Bx,o,none⟩=(ItV.row ⟨⟨xi,num,blk,pos⟩,aa,ca,ta,ct⟩)[o]?:=fun o=>cell_of_row Wr Bx o _ _ _ hrow
   have hx7:Wr.cell? ⟨Bx,7,none⟩=some (.int .i64 blk):=hwx 7
   have hr1:Wr.cell? ⟨Bh,1,none⟩=some vb:=cell_of_row _ _ 1 _ _ _ hbr
   have hBxlt:Bx<Wr.heap.size:=(Array.getElem?_eq_some_iff.1 hrow).1
   have hsWw:=hB.size
   have hnx:Bx≠Bh:=by omega
   clear hwx hL1 hL2 hplen hlt
   gi_wp2_with (first | (gi_at_builtin;refine wpListIn_append_own_at _ rfl (.tmp 15) (.tmp 18) 22 rfl W0.heap.size 3 i0 (.int .i64 0) 1 8 Tryz.underlying22 hi hz0 hz1 hz2 rfl (by decide) _ _ _ rfl (hvb.alloc _) ⟨Wr.heap.size,0,none⟩ 1 1 [.int .i64 blk] rfl rfl (cell_one_new _ _ _) (by simp [Value.oneCell']) (by simp only [maxLen];omega) (by omega) (by simp;omega) ?_;intro v1 w1 hown1 hgrow1 _ hat1;obtain ⟨g1,cap1,rfl⟩:=ownsRow_succ hown1;obtain ⟨m1,m2,m3,m4,m5,m6,m7,m8⟩:=field_append (i:=1) (n₀:=W0.heap.size) (ys:=L1++[.int .i64 blk]) hbr (by decide) hvb (by unfold Own1;rw [List.length_append];exact hown1) hgrow1 hat1;obtain ⟨n1,n2⟩:=m6 _ _ hva hap;have c1:=cell_of_row _ _ 1 _ _ _ m1;have f1:=frozen_of_row _ _ 1 _ _ m1;obtain ⟨w1s,hw1s⟩:∃ w1s,w1.setCell ⟨Bh,1,none⟩ (.slice (some ⟨g1,0,none⟩) (L1.length+1) cap1)=w1s:=⟨_,rfl⟩;have p1:=m7 w.heap.size (by omega) (by omega) (by omega);rw [hw1s] at m2 m3 m4 m5 n1 p1 m8;clear m1 m6 m7;have hF1:=m5 V hF (by omega);have hr2:w1s.cell? ⟨Bh,2,none⟩=some va:=cell_of_row _ _ 2 _ _ _ m2;have hsz1:=m4.size;have hx8:w1s.cell? ⟨Bx,8,none⟩=some (.int .i64 pos):=cell_of_row _ _ 8 _ _ _ (m8 Bx _ _ hrow (by decide) hnx);clear m5 m8) | (gi_at_builtin;refine wpListIn_append_own_at _ rfl (.tmp 22) (.tmp 25) 22 rfl W0.heap.size 3 i0 (.int .i64 0) 1 8 Tryz.underlying22 hi hz0 hz1 hz2 rfl (by decide) _ _ _ rfl (n1.alloc _) ⟨w1s.heap.size,0,none⟩ 1 1 [.int .i64 pos] rfl rfl (cell_one_new _ _ _) (by simp [Value.oneCell']) (by simp only [maxLen];omega) (by omega) (by simp;omega) ?_;intro v2 w2 hown2 hgrow2 _ hat2;obtain ⟨g2,cap2,rfl⟩:=ownsRow_succ hown2;obtain ⟨k1,k2,k3,k4,k5,k6,k7,-⟩:=field_append (i:=2) (n₀:=W0.heap.size) (ys:=L2++[.int .i64 pos]) m2 (by decide) n1 (by unfold Own1;rw [List.length_append];exact hown2) hgrow2 hat2;obtain ⟨j1,j2⟩:=k6 _ _ m3 n2.symm;have c2:=cell_of_row _ _ 2 _ _ _ k1;have f2:=frozen_of_row _ _ 2 _ _ k1;obtain ⟨w2s,hw2s⟩:∃ w2s,w2.setCell ⟨Bh,2,none⟩ (.slice (some ⟨g2,0,none⟩) (L2.length+1) cap2)=w2s:=⟨_,rfl⟩;have p2:=k7 w.heap.size (by omega) (by omega) (by omega);have hF2:=k5 V hF1 (by omega);rw [hw2s] at k2 k3 k4 hF2 j1 p2;clear k1 k5 k6 k7))
   have hs2:=k4.size
   refine ⟨(m4.trans k4).from _,p1.trans p2,⟨_,_,k2,?_,?_,j2.symm⟩,hB.trans (p1.trans p2),hF2,by omega⟩
   ·rw [← HL1.out] at j1;simpa using j1
   ·rw [← HL2.out] at k3;simpa using k3
  case done =>
   rintro D ys Wr hD hys ⟨⟨vb,va,hbr,hvb,hva,hap⟩,hB,hF,hsW⟩ hKD
   rw [hys] at hvb hva
   have fb:∃ A c,vb=.slice A (Ir.items f).length c:=by obtain ⟨A,c,e⟩:=hvb.form;exact ⟨A,c,by rw [e];simp⟩
   have fa:∃ A c,va=.slice A (Ir.items f).length c:=by obtain ⟨A,c,e⟩:=hva.form;exact ⟨A,c,by rw [e];simp⟩
   obtain ⟨Abb,cbb,rfl⟩:=fb
   obtain ⟨Aba,cba,rfl⟩:=fa
   clear hys
   have hresr:Wr.heap[w.heap.size+1]?=some (.cells #[.int .i64 0,.slice none 0 0,.slice none 0 0,.slice none 0 0] 154 (0,0)):=(hF.2 _ (by omega) hne1).trans hres
   have r0:=cell_of_row _ _ 0 _ _ _ hresr
   have r1:=cell_of_row _ _ 1 _ _ _ hresr
   have r2:=cell_of_row _ _ 2 _ _ _ hresr
   have r3:=cell_of_row _ _ 3 _ _ _ hresr
   have z0:=frozen_of_row _ _ 0 _ _ hresr
   have z1:=frozen_of_row _ _ 1 _ _ hresr
   have z2:=frozen_of_row _ _ 2 _ _ hresr
   have z3:=frozen_of_row _ _ 3 _ _ hresr
   have q0:=cell_of_row _ _ 0 _ _ _ hbr
   have q1:=cell_of_row _ _ 1 _ _ _ hbr
   have q2:=cell_of_row _ _ 2 _ _ _ hbr
   have q3:=cell_of_row _ _ 3 _ _ _ hbr
   have hD1:D≠w.heap.size+1:=fun e=>by rw [e,hresr] at hKD;cases hKD
   clear hf0
   go_wp2
   obtain ⟨Wf,hWf⟩:∃ Wf,((((Wr.setCell ⟨w.heap.size+1,0,none⟩ (.int .i64 f.params.length)).setCell ⟨w.heap.size+1,1,none⟩ (.slice Abb (Ir.items f).length cbb)).setCell ⟨w.heap.size+1,2,none⟩ (.slice Aba (Ir.items f).length cba)).setCell ⟨w.heap.size+1,3,none⟩ (.slice Ag ng cg))=Wf:=⟨_,rfl⟩
   have hx:=heap_setCell_at (i:=3) (.slice Ag ng cg) (heap_setCell_at (i:=2) (.slice Aba (Ir.items f).length cba) (heap_setCell_at (i:=1) (.slice Abb (Ir.items f).length cbb) (heap_setCell_at (i:=0) (.int .i64 f.params.length) hresr)))
   have hother:∀ k,k≠w.heap.size+1→Wf.heap[k]?=Wr.heap[k]?:=by
    intro k hk
    rw [← hWf]
    rw [Below.heap_setCell _ _ _ k hk,Below.heap_setCell _ _ _ k hk,Below.heap_setCell _ _ _ k hk,Below.heap_setCell _ _ _ k hk]
   have hBf:Below w.heap.size Wr Wf:=by
    rw [← hWf]
    exact ((((Below.refl _ Wr).setCell (p:=⟨w.heap.size+1,0,none⟩) (by show _≤w.heap.size+1;omega) _).setCell (p:=⟨w.heap.size+1,1,none⟩) (by show _≤w.heap.size+1;omega) _).setCell (p:=⟨w.heap.size+1,2,none⟩) (by show _≤w.heap.size+1;omega) _).setCell (p:=⟨w.heap.size+1,3,none⟩) (by show _≤w.heap.size+1;omega) _
   rw [hWf] at hx
   have hKD':Wf.heap[D]?=some (.deferred (some [])):=(hother D hD1).trans hKD
   rw [hWf]
   have hB9:Below w.heap.size Wf (Wf.putObj D (.deferred none)):=belowK_b (w:=w) (Nat.le_refl _) Wf D _ _ (by omega) hKD' rfl rfl
   have hx9:(Wf.putObj D (.deferred none)).heap[w.heap.size+1]?=some (.cells #[.int .i64 f.params.length,.slice Abb (Ir.items f).length cbb,.slice Aba (Ir.items f).length cba,.slice Ag ng cg] 154 (0,0)):=(World.putObj_heap_other (fun e=>hD1 e.symm)).trans hx
   have ho9:∀ k,k≠w.heap.size+1→k≠D→(Wf.putObj D (.deferred none)).heap[k]?=Wr.heap[k]?:=fun k h1 h2=>(World.putObj_heap_other h2).trans (hother k h1)
   have hs9:(Wf.putObj D (.deferred none)).heap.size=Wr.heap.size:=by rw [World.putObj_size,← hWf];simp
   refine ⟨by simp,.inl ⟨_,_,rfl,run_takeDeferred hKD',?_⟩⟩
   obtain ⟨W9,hW9⟩:∃ W9,Wf.putObj D (.deferred none)=W9:=⟨_,rfl⟩
   rw [hW9] at hB9 hx9 ho9 hs9 ⊢
   have s0:W9.cell? ⟨w.heap.size+1,0,none⟩=some (.int .i64 f.params.length):=cell_of_row _ _ 0 _ _ _ hx9
   have s1:W9.cell? ⟨w.heap.size+1,1,none⟩=some (.slice Abb (Ir.items f).length cbb):=cell_of_row _ _ 1 _ _ _ hx9
   have s2:W9.cell? ⟨w.heap.size+1,2,none⟩=some (.slice Aba (Ir.items f).length cba):=cell_of_row _ _ 2 _ _ _ hx9
   have s3:W9.cell? ⟨w.heap.size+1,3,none⟩=some (.slice Ag ng cg):=cell_of_row _ _ 3 _ _ _ hx9
   have hvb9:Own1 W0.heap.size 3 W9 (.slice Abb (Ir.items f).length cbb) ((blks f).map (Value.int .i64)):=hvb.keep fun k hk=>by
    obtain ⟨t1,t2,cur,t3⟩:=hvb.typed hk
    exact ho9 k (by omega) (fun e=>by rw [e,hKD] at t3;cases t3)
   have hva9:Own1 W0.heap.size 3 W9 (.slice Aba (Ir.items f).length cba) ((places f).map (Value.int .i64)):=hva.keep fun k hk=>by
    obtain ⟨t1,t2,cur,t3⟩:=hva.typed hk
    exact ho9 k (by omega) (fun e=>by rw [e,hKD] at t3;cases t3)
   refine ⟨.agg #[.int .i64 f.params.length,.slice Abb (Ir.items f).length cbb,.slice Aba (Ir.items f).length cba,.slice Ag ng cg],(by clear hother hx hBf ho9 hs9 hB9 hx9 hvb9 hva9 hKD hKD';simp [results,Tryz.results115,go_sem,s0,s1,s2,s3]),_,_,_,rfl,?_,?_,?_,?_⟩
   ·exact hvb9.ints (by simp [blks];omega)
   ·exact hva9.ints (by simp [places];omega)
   ·refine HTX.out W9 fun k h1 h2 h3=>?_
    exact (ho9 k h3 (by omega)).trans (hF.2 k h1 h2)
   ·exact hB.trans (hBf.trans hB9)
  case stop =>
   rintro D c pre Wr _ _ h _
   exact h.elim
end Go.Proofs.YthfhamagopbgcaaGreat
