/- kinds: the first caller of 'all'. -/
import Derived.Test.YtiadpjhlomhjeaaIrL
import Derived.Test.YtiadpjhlomhjeaaIrM
import Derived.Maps.AppendAt
namespace Go.Proofs.Ytiadpjhlomhjeaa
open Go.RowKit Go.Shelf

attribute [local go_sem] Oper.semAt_some

/-- The kinds of all values. -/
def Ir.kinds (f : Fn) : List Int := f.params ++ (Ir.items f).map (·.ins.width)

def ItV.row (y : ItV) : Array Value := #[.int .i64 y.it.ins.op, .int .i64 y.it.ins.width, .int .i64 y.it.ins.flags, .slice y.aa y.it.ins.args.length y.ca, .int .u32 y.it.ins.imm, .slice y.ta y.it.ins.to.length y.ct, .int .i64 y.it.num, .int .i64 y.it.blk, .int .i64 y.it.pos]
theorem row_own {B : Nat} (c : Array Value) (t : TypeId) (G : Nat → Prop) : OwnFrom B (fun (_ : Unit) W => ∃ Bx, G Bx ∧ W.heap[Bx]? = some (.cells c t (0, 0))) := by
  rintro s X Y row ⟨Bx, hG, h⟩ hg hr
  refine ⟨Bx, hG, (hg.block Bx (Array.getElem?_eq_some_iff.1 h).1 (fun e => ?_)).trans h⟩
  obtain ⟨-, o, ho, hc⟩ := hr Bx e.symm
  rw [h] at ho; cases ho; cases hc

set_option maxRecDepth 100000 in
set_option maxHeartbeats 8000000 in
theorem kinds_any (v : Value) (f : Fn) (w : World) (hf : FnAt w.heap.size w v f) (hs : f.blocks.length ≤ 100000) (hit : (Ir.items f).length ≤ 1000000) (hpl : f.params.length ≤ 100000) :
    Calls Try.prog 37 #[v] w fun e w' => ∃ u, e = .returned u ∧ IntsAt w'.heap.size w' u (Ir.kinds f) ∧ Gr w w' := by
  obtain ⟨i0, hi, hz0, hz1, hz2⟩ := info_parts info_int
  have hf0 := hf
  obtain ⟨vp, vs, vb, rfl, hp, hsl, hb⟩ := hf
  have hp0 := hp
  obtain ⟨Ap, cp, rfl, hp1, hp2, -⟩ := hp
  obtain ⟨As, cs, rfl, -, -, -⟩ := hsl
  obtain ⟨Ab, cb, rfl, -, -, -⟩ := hb
  refine (callsIn_wide (n := 5)).1 ?_
  refine callsIn_of_wp_marks Try.func37 rfl trivial ?_ rfl
  simp only [Try.ntmps37, List.size_toArray, List.length_cons, List.length_nil, Nat.reduceAdd, Nat.reduceSub, Array.replicate_succ, Array.replicate_zero, List.push_toArray, List.append_toArray, List.nil_append, List.cons_append]
  obtain ⟨W, hW⟩ : ∃ W, w.alloc (.cells #[.slice Ap f.params.length cp, .int .i64 f.ret, .slice As f.slots.length cs, .slice Ab f.blocks.length cb] 25) = W := ⟨_, rfl⟩
  have hB0 : Gr w W := by rw [← hW]; exact (Gr.refl w).alloc _
  have hWs : W.heap.size = w.heap.size + 1 := by rw [← hW]; simp
  have b0 : ∀ o, W.cell? ⟨w.heap.size, o, none⟩ = (#[.slice Ap f.params.length cp, .int .i64 f.ret, .slice As f.slots.length cs, .slice Ab f.blocks.length cb] : Array Value)[o]? := by
    intro o; rw [← hW]; exact cell_of_row _ _ _ _ _ _ (heap_alloc_new w _)
  have B0 : Hid (∀ w', Gr W w' → w'.cell? ⟨w.heap.size, 0, none⟩ = some (.slice Ap f.params.length cp) ∧ w'.cell? ⟨w.heap.size, 1, none⟩ = some (.int .i64 f.ret) ∧ w'.cell? ⟨w.heap.size, 2, none⟩ = some (.slice As f.slots.length cs) ∧ w'.cell? ⟨w.heap.size, 3, none⟩ = some (.slice Ab f.blocks.length cb)) :=
    fun w' g => ⟨(g.cell w.heap.size 0 (by omega)).trans (b0 0), (g.cell w.heap.size 1 (by omega)).trans (b0 1), (g.cell w.heap.size 2 (by omega)).trans (b0 2), (g.cell w.heap.size 3 (by omega)).trans (b0 3)⟩
  have HCL := Lib.hid (Clone_own (.slice Ap f.params.length cp) f.params w.heap.size W (hp0.below hB0) (by omega))
  have HCA : Hid (∀ w1, Calls Try.prog 34 #[.agg #[.slice Ap f.params.length cp, .int .i64 f.ret, .slice As f.slots.length cs, .slice Ab f.blocks.length cb]] w1 fun e w' =>
      e = .returned (.func (.func 67) #[] #[.pointer (some ⟨w1.heap.size, 0, none⟩)]) ∧ w' = w1.alloc (.cells #[.slice Ap f.params.length cp, .int .i64 f.ret, .slice As f.slots.length cs, .slice Ab f.blocks.length cb] 25)) :=
    fun w1 => all_in f Ap As Ab _ _ _ cp cs cb w1
  obtain ⟨k0, k1, k2, k3⟩ := B0.out W (Gr.refl _)
  clear b0
  gi_wp2_with (first
    | (refine ⟨trivial, ?_⟩; gi_at_call 61; refine (callsIn_wide.2 HCL.out).mono ?_; rintro e w1 ⟨A1, c1, rfl, hown1, hw1⟩; obtain ⟨q0, q1, q2, q3⟩ := B0.out _ (hw1.alloc (.cells #[.slice A1 f.params.length c1] 22)))
    | (refine ⟨trivial, ?_⟩; gi_at_call 34; refine (callsIn_wide.2 (HCA.out _)).mono ?_; rintro e w2 ⟨rfl, rfl⟩))
  obtain ⟨W0, hW0⟩ : ∃ W0, ((w1.alloc (.cells #[.slice A1 f.params.length c1] 22)).alloc (.cells #[.slice Ap f.params.length cp, .int .i64 f.ret, .slice As f.slots.length cs, .slice Ab f.blocks.length cb] 25)) = W0 := ⟨_, rfl⟩
  have hg1 : Gr w w1 := hB0.trans hw1
  have hsz : W0.heap.size = w1.heap.size + 2 := by rw [← hW0]; simp
  have hg0 : Gr w W0 := by rw [← hW0]; exact (hg1.alloc _).alloc _
  have hbox : Boxed W0 w1.heap.size 22 (.slice A1 f.params.length c1) := by rw [← hW0]; exact (Boxed.new w1 _ _).alloc _
  have hownW : Own1 w.heap.size 3 W0 (.slice A1 f.params.length c1) (f.params.map (Value.int .i64)) := by
    rw [← hW0]; exact ((hown1.lower (by omega)).gr (((Gr.refl w1).alloc _).alloc _))
  have hbx : ∀ o, W0.cell? ⟨w1.heap.size + 1, o, none⟩ = (#[.slice Ap f.params.length cp, .int .i64 f.ret, .slice As f.slots.length cs, .slice Ab f.blocks.length cb] : Array Value)[o]? := by
    intro o
    rw [← hW0]
    have := heap_alloc2_new w1 (.cells #[.slice A1 f.params.length c1] 22) (.cells #[.slice Ap f.params.length cp, .int .i64 f.ret, .slice As f.slots.length cs, .slice Ab f.blocks.length cb] 25)
    exact cell_of_row _ _ _ _ _ _ this
  rw [hW0]
  clear q0 q1 q2 q3 k0 k1 k2 k3
  have HS := all_stops (5 - 1) (by omega) (w1.heap.size + 1) w.heap.size f _ _ _ w W0 hf0 (Nat.le_refl _) hg0 hs (by omega) (hbx 0) (hbx 3)
  have h1w := hg1.size
  refine wpIn_rangeFunc_ownH rfl (by omega) (gf := 67) (lb := #[.pointer (some ⟨w1.heap.size + 1, 0, none⟩)]) rfl trivial (enters_of Try.func67 (by kernel_rfl) rfl) HS belowK_t (belowK_b (by omega)) (Below.refl _ _) (fun _ => rfl)
    (fun pre Wr => (∃ v, Boxed Wr w1.heap.size 22 v ∧ Wr.ownsRow w.heap.size 3 1 v ((f.params ++ (prj pre).map (·.ins.width)).map (Value.int .i64)).length ((f.params ++ (prj pre).map (·.ins.width)).map (Value.int .i64)) ∧ True) ∧ (Below w.heap.size w Wr ∧ W0.heap.size ≤ Wr.heap.size))
    (fun _ _ _ => False)
    (OwnFrom.and (Own.from (holdsRow_own w.heap.size w1.heap.size 22 3 1 (fun pre => ((f.params ++ (prj pre).map (·.ins.width)).map (Value.int .i64)).length) (fun pre => ((f.params ++ (prj pre).map (·.ins.width)).map (Value.int .i64))) (fun _ _ => True)) _) (OwnFrom.and (ownFrom_below (Nat.le_refl _) (by omega)) (fun _ _ _ _ h hg _ => Nat.le_trans h hg.size)))
    (fun _ _ _ _ _ hs _ _ => hs)
    ⟨⟨_, hbox, by have := hownW; unfold Own1 at this; simpa [prj] using this, trivial⟩, hg0, Nat.le_refl _⟩
    (fun x a' Wr => ∃ Bx, W0.heap.size ≤ Bx ∧ Wr.heap[Bx]? = some (.cells x.1.row 57 (0, 0)) ∧ a' = { tmps := #[.agg #[.slice Ap f.params.length cp, .int .i64 f.ret, .slice As f.slots.length cs, .slice Ab f.blocks.length cb], .pointer (some ⟨w.heap.size, 0, none⟩), .slice none 0 0, .pointer (some ⟨w1.heap.size, 0, none⟩), .pointer (some ⟨Bx, 0, none⟩), .pointer (some ⟨w.heap.size, 0, none⟩), .slice Ap f.params.length cp, .slice A1 f.params.length c1, .agg #[.slice Ap f.params.length cp, .int .i64 f.ret, .slice As f.slots.length cs, .slice Ab f.blocks.length cb], .func (.func 67) #[] #[.pointer (some ⟨w1.heap.size + 1, 0, none⟩)], x.1.enc, undef, undef, undef, undef, undef, undef, undef], defers := [] })
    ?hAx ?assign ?body ?done ?stop
  case hAx =>
    intro x a' s X Y row h hg hr
    obtain ⟨Bx, h1, h2, h3⟩ := h
    refine ⟨Bx, h1, (hg.block Bx (Array.getElem?_eq_some_iff.1 h2).1 (fun e => ?_)).trans h2, h3⟩
    obtain ⟨-, o, ho, hc⟩ := hr Bx e.symm
    rw [h2] at ho; cases ho; cases hc
  case assign =>
    rintro l pre ⟨⟨⟨xi, num, blk, pos⟩, aa, ca, ta, ct⟩, hgood⟩ Wr K ⟨⟨v, hv, hr, -⟩, hB, hsW⟩ hK
    simp only [ItV.enc]
    gi_wp2
    exact hK _ _ ((KeepsOthers.alloc _ _).from _) ((Below.refl _ Wr).alloc hB.size _) ⟨⟨v, hv.alloc _, (show Own1 _ _ _ _ _ from hr).gr ((Gr.refl Wr).alloc _), trivial⟩, hB.alloc hB.size _, by simp; omega⟩ ⟨Wr.heap.size, hsW, heap_alloc_new Wr _, rfl⟩
  case body =>
    rintro l pre ⟨⟨⟨xi, num, blk, pos⟩, aa, ca, ta, ct⟩, hgood⟩ a' Wr hl ⟨r, hr0⟩ ⟨⟨v, hv, hr, -⟩, hB, hsW⟩ ⟨Bx, hBx, hrow, rfl⟩ hlt
    have hvc := hv.cell
    have hvf := hv.frozen
    have hw := cell_of_row Wr Bx 1 _ _ _ hrow
    simp only [ItV.row] at hw
    have hplen : pre.length = (prj pre).length := by simp [prj]
    obtain ⟨L, hL⟩ : ∃ L, (f.params ++ (prj pre).map (·.ins.width)).map (Value.int .i64) = L := ⟨_, rfl⟩
    have hLl : L.length ≤ 2000000 := by rw [← hL]; simp; omega
    have HL : Hid ((f.params ++ (prj (pre ++ [⟨⟨⟨xi, num, blk, pos⟩, aa, ca, ta, ct⟩, hgood⟩])).map (·.ins.width)).map (Value.int .i64) = L ++ [.int .i64 xi.width]) := by
      show _ = _
      rw [prj_snoc, ← hL]; simp
    rw [hL] at hr
    clear hL hplen
    gi_wp2_with (gi_at_builtin; go_loud (refine wpListIn_append_own _ rfl _ _ 22 rfl w.heap.size 3 i0 (.int .i64 0) 1 8 Try.underlying22 hi hz0 hz1 hz2 rfl (by decide) _ _ _ rfl (hr.alloc _) ⟨Wr.heap.size, 0, none⟩ 1 1 [.int .i64 xi.width] rfl rfl (cell_one_new _ _ _) (by simp [Value.oneCell']) (by simp only [maxLen]; omega) (by omega) (by have := hB.size; simp; omega) ?_); intro v' w2 hown' hgrow _; obtain ⟨g', cap', rfl⟩ := ownsRow_succ hown'; obtain ⟨hv1, hv2, hr2, hk2, hb2⟩ := hv.appended (by decide) hr hB.size h1w hown' hgrow; have hc1 := hv1.cell; have hf1 := hv1.frozen)
    have hfin : (w2.setCell ⟨w1.heap.size, 0, none⟩ (.slice (some ⟨g', 0, none⟩) (L.length + 1) cap')).ownsRow w.heap.size 3 1 (.slice (some ⟨g', 0, none⟩) (L.length + 1) cap') (L ++ [Value.int .i64 xi.width]).length (L ++ [Value.int .i64 xi.width]) := by
      rw [show (L ++ [Value.int .i64 xi.width]).length = L.length + 1 by simp]; exact hr2
    rw [← HL.out] at hfin
    refine ⟨hk2.from _, hb2, ⟨_, hv2, ?_⟩, hB.trans hb2, by have := hb2.size; omega⟩
    simpa using hfin
  case done =>
    rintro D ys Wr hD hys ⟨⟨v, hv, hr, -⟩, hB, hsW⟩ hKD
    have hvc := hv.cell
    gi_wp2
    refine ⟨by simp, .inl ⟨_, _, rfl, run_takeDeferred hKD, ?_⟩⟩
    have hg9 : Gr w (Wr.putObj D (.deferred none)) := hB.trans (belowK_b (w := w) (Nat.le_refl _) Wr D _ _ (by omega) hKD rfl rfl)
    refine ⟨_, results_tmp rfl _ _ _, v, rfl, ?_, hg9⟩
    have hr9 := ownsRow_putObj hr (.deferred none) hKD rfl
    have he : f.params ++ (prj ys).map (·.ins.width) = Ir.kinds f := by rw [hys]; rfl
    rw [he] at hr9
    exact Own1.ints (B := w.heap.size) (by unfold Own1; simpa using hr9) (by unfold Ir.kinds; simp; omega)
  case stop =>
    rintro D c pre Wr _ _ h _
    exact h.elim
end Go.Proofs.Ytiadpjhlomhjeaa
