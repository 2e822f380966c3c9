/- Prune and Rename of both; the law of Prune. -/
import Derived.Test.YtiadpjhlomhjeaaGreatMxG
import Derived.Test.YtiadpjhlomhjeaaGreatMwF
import Derived.Test.YtiadpjhlomhjeaaGreatOpenZ
import Derived.Test.YtiadpjhlomhjeaaGreatRefV
import Derived.Test.YtiadpjhlomhjeaaGreatSaZ
import Derived.Test.YtiadpjhlomhjeaaGreatLong

namespace Go.Proofs.YtiadpjhlomhjeaaGreat
set_option linter.unusedSimpArgs false
set_option linter.unusedVariables false
open Go.RowKit

theorem results_fn2 (fn : Func) (tmps : Array Value) (t s : Nat) (w : World) (B : Nat) (v0 v1 v2 v3 : Value) (E : Int) (fr : Nat × Nat) (h : fn.results = #[.cell t 25, .tmp s]) (ht : tmps[t]?.getD undef = .pointer (some ⟨B, 0, none⟩)) (hs : tmps[s]?.getD undef = .int .i64 E) (hb : w.heap[B]? = some (.cells #[v0, v1, v2, v3] 25 fr))
    (o0 : ∃ a n c, v0 = .slice a n c) (o1 : ∃ z, v1 = .int .i64 z) (o2 : ∃ a n c, v2 = .slice a n c) (o3 : ∃ a n c, v3 = .slice a n c) :
    (results fn tmps).run Tryz.prog w = .ok (.tuple #[.agg #[v0, v1, v2, v3], .int .i64 E]) w := by
  have k0 := cell_of_row _ _ 0 _ _ _ hb
  have k1 := cell_of_row _ _ 1 _ _ _ hb
  have k2 := cell_of_row _ _ 2 _ _ _ hb
  have k3 := cell_of_row _ _ 3 _ _ _ hb
  obtain ⟨a0, n0, c0, rfl⟩ := o0
  obtain ⟨z1, rfl⟩ := o1
  obtain ⟨a2, n2, c2, rfl⟩ := o2
  obtain ⟨a3, n3, c3, rfl⟩ := o3
  simp [results, h, ht, hs, go_sem, k0, k1, k2, k3]
theorem CpAt.lower {n₀ n₁ : Nat} {w : World} {v : Value} {f : Fn} (h : CpAt n₁ w v f) (k : n₀ ≤ n₁) : CpAt n₀ w v f := by
  obtain ⟨vp, vs, vb, us, rfl, h1, h2, h3, h4, h5⟩ := h
  exact ⟨vp, vs, vb, us, rfl, h1.lower k, h2.lower k, h3.lower k, h4, fun j l hj => by obtain ⟨u, q1, q2⟩ := h5 j l hj; exact ⟨u, q1, q2.lower k⟩⟩
theorem CpAt.gr {n₀ : Nat} {w w' : World} {v : Value} {f : Fn} (h : CpAt n₀ w v f) (g : Gr w w') : CpAt n₀ w' v f := by
  obtain ⟨vp, vs, vb, us, rfl, h1, h2, h3, h4, h5⟩ := h
  exact ⟨vp, vs, vb, us, rfl, h1.gr g, h2.gr g, h3.gr g, h4, fun j l hj => by obtain ⟨u, q1, q2⟩ := h5 j l hj; exact ⟨u, q1, q2.gr g⟩⟩
theorem CpAt.four {n₀ B : Nat} {w : World} {v : Value} {f : Fn} {row : Array Value} (h : CpAt n₀ w v f) (hb : w.heap[B]? = some (.cells row 25 (0, 0))) (v0 v1 v2 v3 : Value) :
    CpAt n₀ ((((w.setCell ⟨B, 0, none⟩ v0).setCell ⟨B, 1, none⟩ v1).setCell ⟨B, 2, none⟩ v2).setCell ⟨B, 3, none⟩ v3) v f := by
  have hk := four_kt hb v0 v1 v2 v3
  obtain ⟨vp, vs, vb, us, rfl, h1, h2, h3, h4, h5⟩ := h
  refine ⟨vp, vs, vb, us, rfl, h1.kt hk, h2.kt hk, h3.keep fun k hk => four_other _ _ _ _ (fun e => ?_), h4, fun j l hj => by obtain ⟨u, q1, q2⟩ := h5 j l hj; exact ⟨u, q1, q2.kt hk⟩⟩
  obtain ⟨-, -, cur, hc⟩ := h3.typed hk
  rw [← e, hb] at hc; cases hc
theorem CpAt.nil (n₀ : Nat) (w : World) : CpAt n₀ w (.agg #[.slice none 0 0, .int .i64 0, .slice none 0 0, .slice none 0 0]) Ref.noFn :=
  ⟨_, _, _, [], rfl, ⟨none, 0, rfl, by simp [Ref.noFn], by simp [Ref.noFn], by simp [Ref.noFn]⟩, ⟨none, 0, rfl, by simp [Ref.noFn], by simp [Ref.noFn], by simp [Ref.noFn]⟩, Own1.nil _ _ _, rfl, fun j l h => by simp [Ref.noFn] at h⟩
/-- What Rename and Prune hand back. -/
def RetF (w : World) (F : Fn) (E : Int) (e : Ending) (w' : World) : Prop :=
  ∃ A1 c1 A2 c2 A3 c3, e = .returned (.tuple #[.agg #[.slice A1 F.params.length c1, .int .i64 F.ret, .slice A2 F.slots.length c2, .slice A3 F.blocks.length c3], .int .i64 E]) ∧ CpAt w.heap.size w' (.agg #[.slice A1 F.params.length c1, .int .i64 F.ret, .slice A2 F.slots.length c2, .slice A3 F.blocks.length c3]) F ∧ Gr w w'
theorem RetF.bad {w w1 : World} {E : Int} (g : Gr w w1) (hb : w1.heap[w.heap.size + 1]? = some (.cells #[.slice none 0 0, .int .i64 0, .slice none 0 0, .slice none 0 0] 25 (0, 0))) :
    RetF w Ref.noFn E (.returned (.tuple #[.agg #[.slice none 0 0, .int .i64 0, .slice none 0 0, .slice none 0 0], .int .i64 E])) ((((w1.setCell ⟨w.heap.size + 1, 0, none⟩ (.slice none 0 0)).setCell ⟨w.heap.size + 1, 1, none⟩ (.int .i64 0)).setCell ⟨w.heap.size + 1, 2, none⟩ (.slice none 0 0)).setCell ⟨w.heap.size + 1, 3, none⟩ (.slice none 0 0)) :=
  ⟨none, 0, none, 0, none, 0, rfl, CpAt.nil _ _, four_gr g (by omega) _ _ _ _⟩
theorem RetF.good {w w0 w1 : World} {F : Fn} {A1 A2 A3 : Option Addr} {c1 c2 c3 : Nat} (g0 : Gr w w0) (g : Gr w0 w1) (hb : w1.heap[w.heap.size + 1]? = some (.cells #[.slice none 0 0, .int .i64 0, .slice none 0 0, .slice none 0 0] 25 (0, 0)))
    (h : CpAt w0.heap.size w1 (.agg #[.slice A1 F.params.length c1, .int .i64 F.ret, .slice A2 F.slots.length c2, .slice A3 F.blocks.length c3]) F) :
    RetF w F 0 (.returned (.tuple #[.agg #[.slice A1 F.params.length c1, .int .i64 F.ret, .slice A2 F.slots.length c2, .slice A3 F.blocks.length c3], .int .i64 0])) ((((w1.setCell ⟨w.heap.size + 1, 0, none⟩ (.slice A1 F.params.length c1)).setCell ⟨w.heap.size + 1, 1, none⟩ (.int .i64 F.ret)).setCell ⟨w.heap.size + 1, 2, none⟩ (.slice A2 F.slots.length c2)).setCell ⟨w.heap.size + 1, 3, none⟩ (.slice A3 F.blocks.length c3)) :=
  ⟨_, _, _, _, _, _, rfl, (h.lower g0.size).four hb _ _ _ _, four_gr (g0.trans g) (by omega) _ _ _ _⟩
theorem listFrom_range (p : Nat → Bool) : ∀ m k : Nat, Ir.listFrom ((List.range' k m).map p) k = ((List.range' k m).filter p).map fun b : Nat => (b : Int)
  | 0, k => rfl
  | m + 1, k => by
    rw [List.range'_succ, List.map_cons, Ir.listFrom, listFrom_range p m (k + 1), List.filter_cons]
    split <;> simp [*]
theorem filter_long {p : Nat → Bool} {n : Nat} (h : ∀ b, n ≤ b → p b = false) : ∀ m, n ≤ m → (List.range m).filter p = (List.range n).filter p
  | 0, hm => by have : n = 0 := by omega
                subst this; rfl
  | m + 1, hm => by
    rcases (by omega : n = m + 1 ∨ n ≤ m) with q | q
    · rw [q]
    · rw [List.range_succ, List.filter_append, filter_long h m q]
      simp [h m q]
theorem reached_kept {f : Fn} (hv : Ref.Val f) : Ir.reachedL (Ref.graph f) = (Ref.kept f).map fun b : Nat => (b : Int) := by
  unfold Ir.reachedL Ref.kept
  rw [List.range_eq_range', listFrom_range, ← List.range_eq_range']
  congr 1
  refine filter_long (fun b hb => ?_) 10 hv.size.2.2.2.1
  unfold rb
  rw [List.getD_eq_getElem?_getD, List.getElem?_eq_none (by rw [reached_len, Ref.graph_len]; exact hb)]; rfl
theorem val_gval {f : Fn} (hv : Ref.Val f) : Ir.gval (Ref.graph f) = 0 :=
  graph_gval hv.arg (List.all_eq_true.2 hv.laid) hv.size.2.2.1 hv.size.2.2.2.1
theorem val_ne {f : Fn} (hv : Ref.Val f) : ∀ l ∈ f.blocks, l ≠ [] := fun l hl => laid_ne (hv.laid l hl)
theorem four_facts {w : World} {B : Nat} {T : TypeId} {x0 x1 x2 x3 : Value} (hr : w.heap[B]? = some (.cells #[x0, x1, x2, x3] T (0, 0))) :
    (w.cell? ⟨B, 0, none⟩ = some x0 ∧ w.cell? ⟨B, 1, none⟩ = some x1 ∧ w.cell? ⟨B, 2, none⟩ = some x2 ∧ w.cell? ⟨B, 3, none⟩ = some x3) ∧
    w.frozen? ⟨B, 0, none⟩ = false ∧ w.frozen? ⟨B, 1, none⟩ = false ∧ w.frozen? ⟨B, 2, none⟩ = false ∧ w.frozen? ⟨B, 3, none⟩ = false :=
  ⟨⟨cell_of_row _ _ 0 _ _ _ hr, cell_of_row _ _ 1 _ _ _ hr, cell_of_row _ _ 2 _ _ _ hr, cell_of_row _ _ 3 _ _ _ hr⟩,
    frozen_of_row _ _ 0 _ _ hr, frozen_of_row _ _ 1 _ _ hr, frozen_of_row _ _ 2 _ _ hr, frozen_of_row _ _ 3 _ _ hr⟩
set_option maxRecDepth 100000 in
set_option maxHeartbeats 8000000 in
theorem iPrune_any (v : Value) (f : Fn) (w : World) (hf : FnAt w.heap.size w v f) (hn : Nice f) : Calls Tryz.prog 7 #[v] w (RetF w (Ref.pruneF f) (Ref.pruneE f)) := by
  obtain ⟨vp, vs, vb, rfl, hp, hsl, hb⟩ := id hf
  obtain ⟨Ap, cp, rfl, -, -, -⟩ := hp
  obtain ⟨As, cs, rfl, -, -, -⟩ := hsl
  obtain ⟨Ab, cb, rfl, -, -, -⟩ := hb
  obtain ⟨W, hW⟩ : ∃ W, (w.alloc (.cells #[.slice Ap f.params.length cp, .int .i64 f.ret, .slice As f.slots.length cs, .slice Ab f.blocks.length cb] 25)).alloc (.cells #[.slice none 0 0, .int .i64 0, .slice none 0 0, .slice none 0 0] 25) = W := ⟨_, rfl⟩
  have hB0 : Gr w W := by rw [← hW]; exact ((Gr.refl w).alloc _).alloc _
  have hWs : W.heap.size = w.heap.size + 2 := by rw [← hW]; simp
  have hr0' : W.heap[w.heap.size]? = some (.cells #[.slice Ap f.params.length cp, .int .i64 f.ret, .slice As f.slots.length cs, .slice Ab f.blocks.length cb] 25 (0, 0)) := by
    rw [← hW]; exact (((Gr.refl _).alloc _).heap _ (by simp)).trans (heap_alloc_new w _)
  have hr1 : W.heap[w.heap.size + 1]? = some (.cells #[.slice none 0 0, .int .i64 0, .slice none 0 0, .slice none 0 0] 25 (0, 0)) := by
    rw [← hW]; exact heap_alloc2_new w _ _
  have KP : Hid (∀ w', Gr W w' → w'.cell? ⟨w.heap.size, 0, none⟩ = some (.slice Ap f.params.length cp) ∧ w'.cell? ⟨w.heap.size, 1, none⟩ = some (.int .i64 f.ret) ∧ w'.cell? ⟨w.heap.size, 2, none⟩ = some (.slice As f.slots.length cs) ∧ w'.cell? ⟨w.heap.size, 3, none⟩ = some (.slice Ab f.blocks.length cb)) := fun w' q => by
    have h := (q.heap _ (by omega)).trans hr0'
    exact ⟨cell_of_row _ _ 0 _ _ _ h, cell_of_row _ _ 1 _ _ _ h, cell_of_row _ _ 2 _ _ _ h, cell_of_row _ _ 3 _ _ _ h⟩
  have KR : Hid (∀ w', Gr W w' → w'.heap[w.heap.size + 1]? = some (.cells #[.slice none 0 0, .int .i64 0, .slice none 0 0, .slice none 0 0] 25 (0, 0))) := fun w' q => (q.heap _ (by omega)).trans hr1
  have HB0 := Lib.hid hB0
  have HF := Lib.hid hf
  obtain ⟨k0, k1, k2, k3⟩ := KP.out W (Gr.refl W)
  by_cases h : Ref.validate f = 0
  · have hv := (Ref.val_iff f).1 h
    have HV : Hid (∀ w1, Gr w w1 → Calls Tryz.prog 10 #[.agg #[.slice Ap f.params.length cp, .int .i64 f.ret, .slice As f.slots.length cs, .slice Ab f.blocks.length cb]] w1 fun e w' => e = .returned (.int .i64 0) ∧ Gr w1 w') := fun w1 q => by rw [← h]; exact ival_nice _ f w1 (hf.gr q) hn
    have HGR : Hid (∀ w1, Gr w w1 → Calls Tryz.prog 16 #[.agg #[.slice Ap f.params.length cp, .int .i64 f.ret, .slice As f.slots.length cs, .slice Ab f.blocks.length cb]] w1 fun e w' => ∃ u, e = .returned u ∧ TabAt w'.heap.size w' u (Ref.graph f) ∧ Gr w1 w') := fun w1 q => igraph_any _ f w1 (hf.gr q) hn.blocks (val_ne hv)
    have HRE : Hid (∀ w1 u, TabAt w1.heap.size w1 u (Ref.graph f) → Calls Tryz.prog 15 #[u] w1 fun e w' => ∃ u, e = .returned (.tuple #[u, .int .i64 0]) ∧ IntsAt w'.heap.size w' u ((Ref.kept f).map fun b : Nat => (b : Int)) ∧ Gr w1 w') := fun w1 u hu => by rw [← reached_kept hv]; exact Reached_any u _ w1 hu (val_gval hv)
    have HAR : Hid (∀ w1 u, Gr w w1 → IntsAt w1.heap.size w1 u ((Ref.kept f).map fun b : Nat => (b : Int)) → Calls Tryz.prog 17 #[.agg #[.slice Ap f.params.length cp, .int .i64 f.ret, .slice As f.slots.length cs, .slice Ab f.blocks.length cb], u] w1 fun e w' => ∃ A1 c1 A2 c2 A3 c3, e = .returned (.agg #[.slice A1 (Ref.moved f (Ref.kept f)).params.length c1, .int .i64 (Ref.moved f (Ref.kept f)).ret, .slice A2 (Ref.moved f (Ref.kept f)).slots.length c2, .slice A3 (Ref.moved f (Ref.kept f)).blocks.length c3]) ∧ Hid (CpAt w1.heap.size w' (.agg #[.slice A1 (Ref.moved f (Ref.kept f)).params.length c1, .int .i64 (Ref.moved f (Ref.kept f)).ret, .slice A2 (Ref.moved f (Ref.kept f)).slots.length c2, .slice A3 (Ref.moved f (Ref.kept f)).blocks.length c3]) (Ref.moved f (Ref.kept f))) ∧ Gr w1 w') := fun w1 u q hu => by
      have := arrange_any _ u f (Ref.kept f) w1 (hf.gr q) hu hv (Ref.keeps_reached rcAll hv)
      rw [Ref.moved_len]; exact this
    have e1 : Ref.pruneE f = 0 := h
    have e2 : Ref.pruneF f = Ref.moved f (Ref.kept f) := by unfold Ref.pruneF; rw [if_pos h]
    rw [e1, e2]
    obtain ⟨F, hF⟩ : ∃ F, Ref.moved f (Ref.kept f) = F := ⟨_, rfl⟩
    rw [hF] at HAR ⊢
    clear e1 e2 hF h hv hf hn hr0' hr1 hB0 hWs
    go_enter Tryz.func7, Tryz.ntmps7
    go_wp2_with (first
      | (go_at_call 10; refine (HV.out _ HB0.out).mono ?_; rintro e w1 ⟨rfl, g1⟩; have HG1 := Lib.hid g1; clear g1 k0 k1 k2 k3; obtain ⟨k0, k1, k2, k3⟩ := KP.out _ HG1.out)
      | (go_at_call 16; refine (HGR.out _ (HB0.out.trans HG1.out)).mono ?_; rintro e w2 ⟨ug, rfl, hu, g2⟩; have HU := Lib.hid hu; have HG2 := Lib.hid (HG1.out.trans g2); clear g2 hu k0 k1 k2 k3)
      | (go_at_call 15; refine (HRE.out _ _ HU.out).mono ?_; rintro e w3 ⟨ur, rfl, hu, g3⟩; have HU3 := Lib.hid hu; have HG3 := Lib.hid (HG2.out.trans g3); clear g3 hu; obtain ⟨k0, k1, k2, k3⟩ := KP.out _ HG3.out)
      | (go_at_call 17; refine (HAR.out _ _ (HB0.out.trans HG3.out) HU3.out).mono ?_; rintro e w4 ⟨A1, c1, A2, c2, A3, c3, rfl, HCP, g4⟩; have HG4 := Lib.hid g4; clear k0 k1 k2 k3; obtain ⟨k0, k1, k2, k3⟩ := KP.out _ (HG3.out.trans HG4.out); obtain ⟨⟨b0, b1, b2, b3⟩, f0, f1, f2, f3⟩ := four_facts (KR.out _ (HG3.out.trans HG4.out)); clear g4))
    refine bodyPost_ret (results_fn2 _ _ 2 3 _ (w.heap.size + 1) _ _ _ _ _ _ rfl rfl rfl (four_stores (KR.out _ (HG3.out.trans HG4.out)) _ _ _ _) ⟨_, _, _, rfl⟩ ⟨_, rfl⟩ ⟨_, _, _, rfl⟩ ⟨_, _, _, rfl⟩) rfl ?_
    exact RetF.good (HB0.out.trans HG3.out) HG4.out (KR.out _ (HG3.out.trans HG4.out)) HCP.out
  · -- not valid
    obtain ⟨z, hz⟩ : ∃ z, Ref.validate f = z := ⟨_, rfl⟩
    have HV : Hid (∀ w1, Gr w w1 → Calls Tryz.prog 10 #[.agg #[.slice Ap f.params.length cp, .int .i64 f.ret, .slice As f.slots.length cs, .slice Ab f.blocks.length cb]] w1 fun e w' => e = .returned (.int .i64 z) ∧ Gr w1 w') := fun w1 q => by rw [← hz]; exact ival_nice _ f w1 (hf.gr q) hn
    have hz0 : (z != 0) = true := by rw [hz] at h; simpa using h
    have hz1 : (z == 0) = false := by rw [hz] at h; simpa using h
    rw [show Ref.pruneF f = Ref.noFn by unfold Ref.pruneF; rw [if_neg h], show Ref.pruneE f = Ref.validate f from rfl, hz]
    clear h hz hf hn hr0' hr1 hB0 hWs
    go_enter Tryz.func7, Tryz.ntmps7
    go_wp2_with (go_at_call 10; refine (HV.out _ HB0.out).mono ?_; rintro e w1 ⟨rfl, g1⟩; have HG1 := Lib.hid g1; clear g1 k0 k1 k2 k3; obtain ⟨k0, k1, k2, k3⟩ := KP.out _ HG1.out; obtain ⟨⟨b0, b1, b2, b3⟩, f0, f1, f2, f3⟩ := four_facts (KR.out _ HG1.out))
    refine bodyPost_ret (results_fn2 _ _ 2 3 _ (w.heap.size + 1) _ _ _ _ _ _ rfl rfl rfl (four_stores (KR.out _ HG1.out) _ _ _ _) ⟨_, _, _, rfl⟩ ⟨_, rfl⟩ ⟨_, _, _, rfl⟩ ⟨_, _, _, rfl⟩) rfl ?_
    exact RetF.bad (HB0.out.trans HG1.out) (KR.out _ HG1.out)
end Go.Proofs.YtiadpjhlomhjeaaGreat

namespace Go.Proofs.YtiadpjhlomhjeaaGreat
set_option linter.unusedSimpArgs false
set_option linter.unusedVariables false
open Go.RowKit

theorem Reached1_any (v : Value) (f : Fn) (w : World) (hf : FnAt w.heap.size w v f) (hv : Ref.Val f) (hs : f.blocks.length ≤ 100000) :
    Calls Tryz.prog 19 #[v] w fun e w' => ∃ u, e = .returned u ∧ BoolsAt w'.heap.size w' u (Ref.reached (Ref.graph f) (-1)) ∧ Gr w w' := by
  obtain ⟨vp, vs, vb, rfl, hp, hsl, hb⟩ := id hf
  obtain ⟨Ap, cp, rfl, -, -, -⟩ := hp
  obtain ⟨As, cs, rfl, -, -, -⟩ := hsl
  obtain ⟨Ab, cb, rfl, -, -, -⟩ := hb
  obtain ⟨W, hW⟩ : ∃ W, w.alloc (.cells #[.slice Ap f.params.length cp, .int .i64 f.ret, .slice As f.slots.length cs, .slice Ab f.blocks.length cb] 25) = W := ⟨_, rfl⟩
  have hB0 : Gr w W := by rw [← hW]; exact (Gr.refl w).alloc _
  have hr0 : W.heap[w.heap.size]? = some (.cells #[.slice Ap f.params.length cp, .int .i64 f.ret, .slice As f.slots.length cs, .slice Ab f.blocks.length cb] 25 (0, 0)) := by
    rw [← hW]; exact heap_alloc_new w _
  obtain ⟨⟨k0, k1, k2, k3⟩, -⟩ := four_facts hr0
  have HB0 := Lib.hid hB0
  have HG : Hid (∀ w1, Gr w w1 → Calls Tryz.prog 44 #[.agg #[.slice Ap f.params.length cp, .int .i64 f.ret, .slice As f.slots.length cs, .slice Ab f.blocks.length cb]] w1 fun e w' => ∃ u, e = .returned u ∧ TabAt w'.heap.size w' u (Ref.graph f) ∧ Gr w1 w') := fun w1 q => rgraph_any _ f w1 (hf.gr q) hs (val_ne hv)
  have HR : Hid (∀ w1 u, TabAt w1.heap.size w1 u (Ref.graph f) → Calls Tryz.prog 43 #[u, .int .i64 (-1)] w1 fun e w' => ∃ v, e = .returned v ∧ BoolsAt w'.heap.size w' v (Ref.reached (Ref.graph f) (-1)) ∧ Gr w1 w') := fun w1 u hu =>
    rreached_any u _ (-1) w1 hu (by rw [Ref.graph_len]; exact hv.size.2.2.1) (by rw [Ref.graph_len]; exact hs) (Ref.val_gok hv)
  clear hr0 hB0 hf hv
  go_enter Tryz.func19, Tryz.ntmps19
  go_wp2_with (first
    | (go_at_call 44; refine (HG.out _ HB0.out).mono ?_; rintro e w1 ⟨u, rfl, hu, g1⟩; have HU := Lib.hid hu; have HG1 := Lib.hid g1; clear g1 hu)
    | (go_at_call 43; refine (HR.out _ _ HU.out).mono ?_; rintro e w2 ⟨u2, rfl, hu, g2⟩; have HU2 := Lib.hid hu; have HG2 := Lib.hid g2; clear g2 hu))
  go_ret
  exact ⟨u2, rfl, HU2.out, HB0.out.trans (HG1.out.trans HG2.out)⟩
theorem NRow.off {B hb n B' : Nat} {e : TypeId} {w0 w w' : World} {ns : List Int} {v : Value} {xs : List Value} (h : NRow B hb n w ns) (ho : Own1 B' e w0 v xs) (hB : hb < B') (g : w.grownBy w' v.ownBlock) : NRow B hb n w' ns :=
  own_other h g fun j hj e => by
    have h1 := (ho.typed e).1
    have h3 : hb = j := by simpa [Value.ownBlock] using hj
    omega
theorem set_to {ts : List Int} {k : Nat} {z : Int} {g : Nat → Int} (hk : k < ts.length) (hz : z = g k) (h : ∀ v : Nat, v < k → ts[v]? = some (g v)) : ∀ v : Nat, v < k + 1 → (ts.set k z)[v]? = some (g v) := by
  intro v hv
  rcases (by omega : v < k ∨ v = k) with q | q
  · rw [List.getElem?_set_ne (by omega)]; exact h v q
  · subst q; rw [List.getElem?_set_self hk, hz]
set_option maxRecDepth 100000 in
set_option maxHeartbeats 16000000 in
theorem rPrune_any (v : Value) (f : Fn) (w : World) (hf : FnAt w.heap.size w v f) (hn : Nice f) : Calls Tryz.prog 8 #[v] w (RetF w (Ref.pruneF f) (Ref.pruneE f)) := by
  obtain ⟨vp, vs, vb, rfl, hp, hsl, hb⟩ := id hf
  obtain ⟨Ap, cp, rfl, -, -, -⟩ := hp
  obtain ⟨As, cs, rfl, -, -, -⟩ := hsl
  obtain ⟨Ab, cb, rfl, -, -, -⟩ := hb
  obtain ⟨W, hW⟩ : ∃ W, (w.alloc (.cells #[.slice Ap f.params.length cp, .int .i64 f.ret, .slice As f.slots.length cs, .slice Ab f.blocks.length cb] 25)).alloc (.cells #[.slice none 0 0, .int .i64 0, .slice none 0 0, .slice none 0 0] 25) = W := ⟨_, rfl⟩
  have hB0 : Gr w W := by rw [← hW]; exact ((Gr.refl w).alloc _).alloc _
  have hWs : W.heap.size = w.heap.size + 2 := by rw [← hW]; simp
  have hr0' : W.heap[w.heap.size]? = some (.cells #[.slice Ap f.params.length cp, .int .i64 f.ret, .slice As f.slots.length cs, .slice Ab f.blocks.length cb] 25 (0, 0)) := by
    rw [← hW]; exact (((Gr.refl _).alloc _).heap _ (by simp)).trans (heap_alloc_new w _)
  have hr1 : W.heap[w.heap.size + 1]? = some (.cells #[.slice none 0 0, .int .i64 0, .slice none 0 0, .slice none 0 0] 25 (0, 0)) := by
    rw [← hW]; exact heap_alloc2_new w _ _
  have KP : Hid (∀ w', Gr W w' → w'.cell? ⟨w.heap.size, 0, none⟩ = some (.slice Ap f.params.length cp) ∧ w'.cell? ⟨w.heap.size, 1, none⟩ = some (.int .i64 f.ret) ∧ w'.cell? ⟨w.heap.size, 2, none⟩ = some (.slice As f.slots.length cs) ∧ w'.cell? ⟨w.heap.size, 3, none⟩ = some (.slice Ab f.blocks.length cb)) := fun w' q => by
    have h := (q.heap _ (by omega)).trans hr0'
    exact ⟨cell_of_row _ _ 0 _ _ _ h, cell_of_row _ _ 1 _ _ _ h, cell_of_row _ _ 2 _ _ _ h, cell_of_row _ _ 3 _ _ _ h⟩
  have KR : Hid (∀ w', Gr W w' → w'.heap[w.heap.size + 1]? = some (.cells #[.slice none 0 0, .int .i64 0, .slice none 0 0, .slice none 0 0] 25 (0, 0))) := fun w' q => (q.heap _ (by omega)).trans hr1
  have HB0 := Lib.hid hB0
  have HF := Lib.hid hf
  obtain ⟨k0, k1, k2, k3⟩ := KP.out W (Gr.refl W)
  by_cases h : Ref.validate f = 0
  · have hv := (Ref.val_iff f).1 h
    have HVAL := Lib.hid hv
    have sz3 := hv.size.2.2.1
    have sz4 := hv.size.2.2.2.1
    obtain ⟨i0, hi0, hx0, hx1, hx2⟩ := info_parts info_int
    have HV : Hid (∀ w1, Gr w w1 → Calls Tryz.prog 18 #[.agg #[.slice Ap f.params.length cp, .int .i64 f.ret, .slice As f.slots.length cs, .slice Ab f.blocks.length cb]] w1 fun e w' => e = .returned (.int .i64 0) ∧ Gr w1 w') := fun w1 q => by rw [← h]; exact rval_nice _ f w1 (hf.gr q) hn
    have HRE : Hid (∀ w1, Gr w w1 → Calls Tryz.prog 19 #[.agg #[.slice Ap f.params.length cp, .int .i64 f.ret, .slice As f.slots.length cs, .slice Ab f.blocks.length cb]] w1 fun e w' => ∃ bu ou c, e = .returned (.slice (some ⟨bu, ou, none⟩) f.blocks.length c) ∧ f.blocks.length ≤ c ∧ Hid (bu < w'.heap.size ∧ ∀ (j : Nat) z, (Ref.reached (Ref.graph f) (-1))[j]? = some z → w'.cell? ⟨bu, ou + j, none⟩ = some (.bool z)) ∧ Gr w1 w') := fun w1 q =>
      (Reached1_any _ f w1 (hf.gr q) hv hn.blocks).mono fun e w' ⟨u, he, ⟨A, c, hu, hc1, hc2, hc3⟩, hg⟩ => by
        have hl : (Ref.reached (Ref.graph f) (-1)).length = f.blocks.length := by rw [reached_len, Ref.graph_len]
        rw [hl] at hu hc1 hc3
        obtain ⟨b, off, rfl, hb, hcell⟩ := hc3 (by omega)
        exact ⟨b, off, c, by rw [he, hu], hc1, ⟨hb, hcell⟩, hg⟩
    have HAR : Hid (∀ w1 u ut tos, Gr w w1 → IntsAt w1.heap.size w1 u ((Ref.kept f).map fun b : Nat => (b : Int)) → IntsAt w1.heap.size w1 ut tos → tos.length = f.blocks.length → (∀ b : Nat, b < f.blocks.length → tos[b]? = some (Ref.toOf (Ref.kept f) (b : Int))) → Calls Tryz.prog 20 #[.agg #[.slice Ap f.params.length cp, .int .i64 f.ret, .slice As f.slots.length cs, .slice Ab f.blocks.length cb], u, ut] w1 fun e w' => ∃ A1 c1 A2 c2 A3 c3, e = .returned (.agg #[.slice A1 (Ref.moved f (Ref.kept f)).params.length c1, .int .i64 (Ref.moved f (Ref.kept f)).ret, .slice A2 (Ref.moved f (Ref.kept f)).slots.length c2, .slice A3 (Ref.moved f (Ref.kept f)).blocks.length c3]) ∧ Hid (CpAt w1.heap.size w' (.agg #[.slice A1 (Ref.moved f (Ref.kept f)).params.length c1, .int .i64 (Ref.moved f (Ref.kept f)).ret, .slice A2 (Ref.moved f (Ref.kept f)).slots.length c2, .slice A3 (Ref.moved f (Ref.kept f)).blocks.length c3]) (Ref.moved f (Ref.kept f))) ∧ Gr w1 w') := fun w1 u ut tos q hu ht hl hto => by
      have := moved_any _ u ut f (Ref.kept f) tos w1 (hf.gr q) hu ht hv (Ref.keeps_reached rcAll hv) hl (fun t t0 t1 => by
        have := hto t.toNat (by omega)
        unfold Ref.at0
        rw [List.getD_eq_getElem?_getD, this, show ((t.toNat : Nat) : Int) = t by omega]; rfl)
      rw [Ref.moved_len]; exact this
    have HRL : Hid ((Ref.reached (Ref.graph f) (-1)).length = f.blocks.length) := by show _ = _; rw [reached_len, Ref.graph_len]
    have e1 : Ref.pruneE f = 0 := h
    have e2 : Ref.pruneF f = Ref.moved f (Ref.kept f) := by unfold Ref.pruneF; rw [if_pos h]
    rw [e1, e2]
    obtain ⟨F, hF⟩ : ∃ F, Ref.moved f (Ref.kept f) = F := ⟨_, rfl⟩
    rw [hF] at HAR ⊢
    have HKT : Hid (∀ b : Nat, b < f.blocks.length → Ref.toOf (Ref.kept f) (b : Int) = if (Ref.reached (Ref.graph f) (-1)).getD b false = true then ((Ref.keptTo f b).length : Int) else -1) := fun b hb => Ref.kept_to rcAll hv hb
    have HKL : Hid (∀ k, (Ref.keptTo f k).length ≤ k) := fun k => by
      show (Ref.keptTo f k).length ≤ k
      unfold Ref.keptTo
      have := List.length_filter_le (fun c => (Ref.reached (Ref.graph f) (-1)).getD c false) (List.range k)
      rw [List.length_range] at this; exact this
    clear e1 e2 hF h hv hf hn hr0' hr1 hB0 hWs
    go_enter Tryz.func8, Tryz.ntmps8
    go_upto_block 0 with (first
      | (go_at_call 18; refine (HV.out _ HB0.out).mono ?_; rintro e w1 ⟨rfl, g1⟩; have HG1 := Lib.hid g1; clear g1 k0 k1 k2 k3; obtain ⟨k0, k1, k2, k3⟩ := KP.out _ HG1.out)
      | (go_at_call 19; refine (HRE.out _ (HB0.out.trans HG1.out)).mono ?_; rintro e w2 ⟨bu, ou, cu, rfl, hcu, HU, g2⟩; have HG2 := Lib.hid (HG1.out.trans g2); clear g2 k0 k1 k2 k3; obtain ⟨k0, k1, k2, k3⟩ := KP.out _ HG2.out)
      | (at_make; refine make_ints rfl _ _ rfl w.heap.size f.blocks.length rfl rfl (by omega) (HB0.out.trans HG2.out).size ?_; intro w3 hrow3 hg3; have HR3 := Lib.hid hrow3; have HW3 := Lib.hid hg3; have HG3 := Lib.hid (HG2.out.trans hg3); clear k0 k1 k2 k3; clear hrow3 hg3))
    have HBL : Hid (w2.heap.size < w3.heap.size) := HR3.out.lt.2
    have HUB : Hid (bu < w2.heap.size) := HU.out.1
    have HWB : Hid (W.heap.size ≤ w2.heap.size) := HG2.out.size
    have HW3' := HW3
    obtain ⟨hb, hhb⟩ : ∃ hb, w2.heap.size = hb := ⟨_, rfl⟩
    have HHB := Lib.hid hhb
    rw [hhb] at HR3 HBL HUB HWB ⊢
    clear hhb
    obtain ⟨k0, k1, k2, k3⟩ := KP.out _ HG3.out
    go_wp2_with (fail)
    go_loopw [6, 8] (fun v6 i wr => ∃ (k : Nat) (ts : List Int), k ≤ f.blocks.length ∧ i = .int .i64 k ∧ Hid (Own1 w3.heap.size 3 wr v6 ((Ref.keptTo f k).map fun b : Nat => Value.int .i64 (b : Int))) ∧ Hid (NRow w.heap.size hb f.blocks.length wr ts) ∧ Hid (∀ v : Nat, v < k → ts[v]? = some (Ref.toOf (Ref.kept f) (v : Int))) ∧ Hid (Gr w2 wr) ∧ Hid (w3.heap.size ≤ wr.heap.size)) (fun _ i _ => f.blocks.length - (intOf i).toNat)
    case atStart => exact ⟨0, _, Nat.zero_le _, rfl, Own1.nil _ _ _, HR3, Lib.hid fun v h => by omega, HW3, Lib.hid (Nat.le_refl _)⟩
    case round =>
      clear k0 k1 k2 k3
      obtain ⟨k, ts, hk, rfl, HO, HR, HT, HG, HSZ⟩ := hrel
      obtain ⟨k0, k1, k2, k3⟩ := KP.out _ (HG2.out.trans HG.out)
      by_cases hlt : k < f.blocks.length
      · obtain ⟨r, hr⟩ : ∃ r, (Ref.reached (Ref.graph f) (-1))[k]? = some r := ⟨_, List.getElem?_eq_getElem (by rw [HRL.out]; exact hlt)⟩
        have HRD : Hid ((Ref.reached (Ref.graph f) (-1)).getD k false = r) := by show _ = _; rw [List.getD_eq_getElem?_getD, hr]; rfl
        have hln := HR.out.len
        have hhl := HR.out.lt.2
        obtain ⟨z, hz⟩ : ∃ z, ts[k]? = some z := ⟨_, List.getElem?_eq_getElem (by omega)⟩
        have q0 := HR.out.cell k z hz
        have q1 := HR.out.frozen k
        obtain ⟨V1, hV1⟩ : ∃ V1, wr.setCell ⟨hb, k, none⟩ (.int .i64 (-1)) = V1 := ⟨_, rfl⟩
        have HN1 : Hid (NRow w.heap.size hb f.blocks.length V1 (ts.set k (-1))) := by rw [← hV1]; exact HR.out.set_ k (-1)
        have HGV : Hid (Gr w2 V1) := by rw [← hV1]; exact HG.out.setCell (by rw [HHB.out]; exact Nat.le_refl _) _
        have HO1 : Hid (Own1 w3.heap.size 3 V1 u6 ((Ref.keptTo f k).map fun b : Nat => Value.int .i64 (b : Int))) := by
          rw [← hV1]
          exact HO.out.keep fun j hj => Below.heap_setCell wr ⟨hb, k, none⟩ _ j (fun e => by have := (HO.out.typed hj).1; have := HBL.out; simp at e; omega)
        have HSZ1 : Hid (w3.heap.size ≤ V1.heap.size) := by rw [← hV1]; show _ ≤ _; simp; exact HSZ.out
        have u0 := (HGV.out.cell bu (ou + k) (by rw [HHB.out]; exact HUB.out)).trans (HU.out.2 k r hr)
        have u1 := HN1.out.cell k (-1) (by rw [List.getElem?_set_self (by omega)])
        have u2 := HN1.out.frozen k
        have HT1 : Hid ((Ref.toOf (Ref.kept f) (k : Int)) = if r = true then ((Ref.keptTo f k).length : Int) else -1) := by show _ = _; rw [HKT.out k hlt, HRD.out]
        have HKS := Lib.hid (Ref.keptTo_succ f k)
        have hkl := HKL.out k
        have z0 : (0 : Int) ≤ (k : Int) := by omega
        have z1 : (k : Int) < (f.blocks.length : Int) := by omega
        have z2 : k < ts.length := by omega
        obtain ⟨L, hL⟩ : ∃ L, Ref.keptTo f k = L := ⟨_, rfl⟩
        rw [hL] at HO1 HT1 HKS hkl
        rw [HRD.out] at HKS
        have HZ2 := Lib.hid z2
        clear hr hz hlt hln hhl hL HO HR z2
        cases r with
        | false =>
          have HT2 : Hid (∀ v : Nat, v < k + 1 → (ts.set k (-1))[v]? = some (Ref.toOf (Ref.kept f) (v : Int))) := set_to (g := fun v => Ref.toOf (Ref.kept f) (v : Int)) HZ2.out (by rw [HT1.out]; rfl) HT.out
          have HKS2 : Hid (Ref.keptTo f (k + 1) = L) := HKS.out
          clear HKS HT1
          go_wp2_with (fail)
          go_roundw
          case rel => exact ⟨k + 1, _, by omega, by go_num, by (show Own1 _ _ _ _ _); rw [HKS2.out]; exact HO1.out, HN1, HT2, HGV, HSZ1⟩
          case measure => simp [intOf] <;> omega
        | true =>
          obtain ⟨V2, hV2⟩ : ∃ V2, V1.setCell ⟨hb, k, none⟩ (.int .i64 (L.length : Int)) = V2 := ⟨_, rfl⟩
          have HN2 : Hid (NRow w.heap.size hb f.blocks.length V2 ((ts.set k (-1)).set k (L.length : Int))) := by rw [← hV2]; exact HN1.out.set_ k _
          have HGV2 : Hid (Gr w2 V2) := by rw [← hV2]; exact HGV.out.setCell (by rw [HHB.out]; exact Nat.le_refl _) _
          have HO2 : Hid (Own1 w3.heap.size 3 V2 u6 (L.map fun b : Nat => Value.int .i64 (b : Int))) := by
            rw [← hV2]
            exact HO1.out.keep fun j hj => Below.heap_setCell V1 ⟨hb, k, none⟩ _ j (fun e => by have := (HO1.out.typed hj).1; have := HBL.out; simp at e; omega)
          have hsz2 : w3.heap.size ≤ V2.heap.size := by rw [← hV2]; simp; exact HSZ1.out
          have HT2 : Hid (∀ v : Nat, v < k + 1 → ((ts.set k (-1)).set k (L.length : Int))[v]? = some (Ref.toOf (Ref.kept f) (v : Int))) := by
            refine set_to (g := fun v => Ref.toOf (Ref.kept f) (v : Int)) (by rw [List.length_set]; exact HZ2.out) (by rw [HT1.out]; rfl) (fun v hv => ?_)
            rw [List.getElem?_set_ne (by omega)]; exact HT.out v hv
          have HKS2 : Hid (Ref.keptTo f (k + 1) = L ++ [k]) := HKS.out
          obtain ⟨A6, c6, rfl⟩ := HO2.out.form
          rw [List.length_map] at HO2 ⊢
          have hll : (L.map fun b : Nat => Value.int .i64 (b : Int)).length = L.length := List.length_map _
          have HLL := Lib.hid hll
          have hlt6 : (L.map fun b : Nat => Value.int .i64 (b : Int)).length < 1099511627776 := by rw [hll]; omega
          clear HKS HT1 hll HO1
          go_wp2_with (at_builtin; refine app1 (v := .slice A6 L.length c6) Tryz.underlying22 hi0 hx0 hx1 hx2 rfl (by omega) rfl (.tmp 40) (.tmp 42) rfl rfl HO2.out rfl rfl hlt6 hsz2 ?_; intro A7 c7 w5 ho5 hb5 hg5; have HO5 := Lib.hid ho5; have HG5 : Hid (Gr w2 w5) := HGV2.out.below hb5 (Nat.le_of_lt (by rw [HHB.out]; exact HBL.out)); have HN5 : Hid (NRow w.heap.size hb f.blocks.length w5 ((ts.set k (-1)).set k (L.length : Int))) := NRow.off (HN2.out.gr ((Gr.refl _).alloc _)) HO2.out HBL.out hg5; have HS5 : Hid (w3.heap.size ≤ w5.heap.size) := Nat.le_trans hsz2 hb5.size; clear ho5 hb5 hg5)
          go_roundw
          case rel => exact ⟨k + 1, _, by omega, by go_num, by (show Own1 _ _ _ _ _); have h5 := HO5.out; rw [List.length_map] at h5; rw [HKS2.out, List.map_append]; exact h5, HN5, HT2, HG5, HS5⟩
          case measure => simp [intOf] <;> omega
      · obtain rfl : k = f.blocks.length := by omega
        have HKE : Hid ((Ref.keptTo f f.blocks.length) = Ref.kept f) := rfl
        have HI6 : Hid (IntsAt wr.heap.size wr u6 ((Ref.kept f).map fun b : Nat => (b : Int))) := by
          have h1 := HO.out
          rw [HKE.out] at h1
          have h2 : Own1 w3.heap.size 3 wr u6 (((Ref.kept f).map fun b : Nat => (b : Int)).map (Value.int .i64)) := by rw [List.map_map]; exact h1
          exact h2.ints (by have := HKL.out f.blocks.length; rw [HKE.out] at this; rw [List.length_map]; omega)
        have HI7 : Hid (IntsAt wr.heap.size wr (.slice (some ⟨hb, 0, none⟩) f.blocks.length f.blocks.length) ts) := (HR.out.ti (by omega)).ints
        have HTL := Lib.hid HR.out.len
        have HGW : Hid (Gr w wr) := HB0.out.trans (HG2.out.trans HG.out)
        have HGX : Hid (Gr W wr) := HG2.out.trans HG.out
        obtain ⟨A6, c6, hv6⟩ := HO.out.form
        rw [List.length_map] at hv6
        subst hv6
        clear HO
        go_wp2_with (go_at_call 20; refine (HAR.out wr _ _ ts HGW.out HI6.out HI7.out HTL.out HT.out).mono ?_; rintro e w4 ⟨A1, c1, A2, c2, A3, c3, rfl, HCP, g4⟩; have HG4 := Lib.hid g4; clear k0 k1 k2 k3; obtain ⟨k0, k1, k2, k3⟩ := KP.out _ (HGX.out.trans HG4.out); obtain ⟨⟨b0, b1, b2, b3⟩, f0, f1, f2, f3⟩ := four_facts (KR.out _ (HGX.out.trans HG4.out)); clear g4)
        refine bodyPost_ret (results_fn2 _ _ 2 3 _ (w.heap.size + 1) _ _ _ _ _ _ rfl rfl rfl (four_stores (KR.out _ (HGX.out.trans HG4.out)) _ _ _ _) ⟨_, _, _, rfl⟩ ⟨_, rfl⟩ ⟨_, _, _, rfl⟩ ⟨_, _, _, rfl⟩) rfl ?_
        exact RetF.good HGW.out HG4.out (KR.out _ (HGX.out.trans HG4.out)) HCP.out
  · -- not valid
    obtain ⟨z, hz⟩ : ∃ z, Ref.validate f = z := ⟨_, rfl⟩
    have HV : Hid (∀ w1, Gr w w1 → Calls Tryz.prog 18 #[.agg #[.slice Ap f.params.length cp, .int .i64 f.ret, .slice As f.slots.length cs, .slice Ab f.blocks.length cb]] w1 fun e w' => e = .returned (.int .i64 z) ∧ Gr w1 w') := fun w1 q => by rw [← hz]; exact rval_nice _ f w1 (hf.gr q) hn
    have hz0 : (z != 0) = true := by rw [hz] at h; simpa using h
    have hz1 : (z == 0) = false := by rw [hz] at h; simpa using h
    rw [show Ref.pruneF f = Ref.noFn by unfold Ref.pruneF; rw [if_neg h], show Ref.pruneE f = Ref.validate f from rfl, hz]
    clear h hz hf hn hr0' hr1 hB0 hWs
    go_enter Tryz.func8, Tryz.ntmps8
    go_wp2_with (go_at_call 18; refine (HV.out _ HB0.out).mono ?_; rintro e w1 ⟨rfl, g1⟩; have HG1 := Lib.hid g1; clear g1 k0 k1 k2 k3; obtain ⟨k0, k1, k2, k3⟩ := KP.out _ HG1.out; obtain ⟨⟨b0, b1, b2, b3⟩, f0, f1, f2, f3⟩ := four_facts (KR.out _ HG1.out))
    refine bodyPost_ret (results_fn2 _ _ 2 3 _ (w.heap.size + 1) _ _ _ _ _ _ rfl rfl rfl (four_stores (KR.out _ HG1.out) _ _ _ _) ⟨_, _, _, rfl⟩ ⟨_, rfl⟩ ⟨_, _, _, rfl⟩ ⟨_, _, _, rfl⟩) rfl ?_
    exact RetF.bad (HB0.out.trans HG1.out) (KR.out _ HG1.out)
end Go.Proofs.YtiadpjhlomhjeaaGreat

namespace Go.Proofs.YtiadpjhlomhjeaaGreat
set_option linter.unusedSimpArgs false
set_option linter.unusedVariables false
open Go.RowKit

theorem findI_mem : ∀ (l : List Int) (n : Int) (k : Nat), n ∈ l → ∃ j : Nat, l[j]? = some n ∧ Ir.findI (fun z => decide (z = n)) l k = ((k + j : Nat) : Int)
  | [], n, k, h => by cases h
  | x :: r, n, k, h => by
    unfold Ir.findI
    by_cases e : x = n
    · exact ⟨0, by rw [e]; rfl, by simp [e]⟩
    · obtain ⟨j, h1, h2⟩ := findI_mem r n (k + 1) (by rcases List.mem_cons.1 h with q | q; exact absurd q.symm e; exact q)
      exact ⟨j + 1, by simpa using h1, by rw [if_neg (by simpa using e), h2]; omega⟩
theorem findI_not : ∀ (l : List Int) (n : Int) (k : Nat), n ∉ l → Ir.findI (fun z => decide (z = n)) l k = -1
  | [], n, k, h => rfl
  | x :: r, n, k, h => by
    unfold Ir.findI
    have e : x ≠ n := fun q => h (by rw [q]; exact List.mem_cons_self)
    rw [if_neg (by simpa using e)]
    exact findI_not r n (k + 1) (fun q => h (List.mem_cons_of_mem _ q))
set_option maxRecDepth 100000 in
set_option maxHeartbeats 16000000 in
theorem iRename_any (v vt : Value) (f : Fn) (tl : List Int) (w : World) (hf : FnAt w.heap.size w v f) (ht : IntsAt w.heap.size w vt tl) (hn : Nice f) : Calls Tryz.prog 11 #[v, vt] w (RetF w (Ref.renameF f tl) (Ref.renameE f tl)) := by
  obtain ⟨vp, vs, vb, rfl, hp, hsl, hb⟩ := id hf
  obtain ⟨Ap, cp, rfl, -, -, -⟩ := hp
  obtain ⟨As, cs, rfl, -, -, -⟩ := hsl
  obtain ⟨Ab, cb, rfl, -, -, -⟩ := hb
  obtain ⟨W, hW⟩ : ∃ W, (w.alloc (.cells #[.slice Ap f.params.length cp, .int .i64 f.ret, .slice As f.slots.length cs, .slice Ab f.blocks.length cb] 25)).alloc (.cells #[.slice none 0 0, .int .i64 0, .slice none 0 0, .slice none 0 0] 25) = W := ⟨_, rfl⟩
  have hB0 : Gr w W := by rw [← hW]; exact ((Gr.refl w).alloc _).alloc _
  have hWs : W.heap.size = w.heap.size + 2 := by rw [← hW]; simp
  have hr0' : W.heap[w.heap.size]? = some (.cells #[.slice Ap f.params.length cp, .int .i64 f.ret, .slice As f.slots.length cs, .slice Ab f.blocks.length cb] 25 (0, 0)) := by
    rw [← hW]; exact (((Gr.refl _).alloc _).heap _ (by simp)).trans (heap_alloc_new w _)
  have hr1 : W.heap[w.heap.size + 1]? = some (.cells #[.slice none 0 0, .int .i64 0, .slice none 0 0, .slice none 0 0] 25 (0, 0)) := by
    rw [← hW]; exact heap_alloc2_new w _ _
  have KP : Hid (∀ w', Gr W w' → w'.cell? ⟨w.heap.size, 0, none⟩ = some (.slice Ap f.params.length cp) ∧ w'.cell? ⟨w.heap.size, 1, none⟩ = some (.int .i64 f.ret) ∧ w'.cell? ⟨w.heap.size, 2, none⟩ = some (.slice As f.slots.length cs) ∧ w'.cell? ⟨w.heap.size, 3, none⟩ = some (.slice Ab f.blocks.length cb)) := fun w' q => by
    have h := (q.heap _ (by omega)).trans hr0'
    exact ⟨cell_of_row _ _ 0 _ _ _ h, cell_of_row _ _ 1 _ _ _ h, cell_of_row _ _ 2 _ _ _ h, cell_of_row _ _ 3 _ _ _ h⟩
  have KR : Hid (∀ w', Gr W w' → w'.heap[w.heap.size + 1]? = some (.cells #[.slice none 0 0, .int .i64 0, .slice none 0 0, .slice none 0 0] 25 (0, 0))) := fun w' q => (q.heap _ (by omega)).trans hr1
  have HB0 := Lib.hid hB0
  have HF := Lib.hid hf
  obtain ⟨k0, k1, k2, k3⟩ := KP.out W (Gr.refl W)
  by_cases h : Ref.validate f = 0
  · have hv := (Ref.val_iff f).1 h
    have sz3 := hv.size.2.2.1
    have sz4 := hv.size.2.2.2.1
    have HV : Hid (∀ w1, Gr w w1 → Calls Tryz.prog 10 #[.agg #[.slice Ap f.params.length cp, .int .i64 f.ret, .slice As f.slots.length cs, .slice Ab f.blocks.length cb]] w1 fun e w' => e = .returned (.int .i64 0) ∧ Gr w1 w') := fun w1 q => by rw [← h]; exact ival_nice _ f w1 (hf.gr q) hn
    by_cases hl : tl.length = f.blocks.length
    · have ht0 := ht
      obtain ⟨At, ct, rfl, ht1, ht2, ht3⟩ := ht
      obtain ⟨bt, ot, rfl, hbt, hct⟩ := ht3 (by omega)
      obtain ⟨t0, h00⟩ : ∃ t0, tl[0]? = some t0 := ⟨_, List.getElem?_eq_getElem (by omega)⟩
      by_cases hz : t0 = 0
      · subst hz
        have Hir.Validate := Lib.hid hv
        have HL := Lib.hid hl
        have HTV := Lib.hid ht0
        have H00 := Lib.hid h00
        have HZ := Lib.hid h
        have HTC : Hid (∀ w', Gr w w' → ∀ (j : Nat) z, tl[j]? = some z → w'.cell? ⟨bt, ot + j, none⟩ = some (.int .i64 z)) := fun w' q j z hj => (q.cell bt (ot + j) hbt).trans (hct j z hj)
        have HT0 : Hid (∀ w', Gr w w' → w'.cell? ⟨bt, ot, none⟩ = some (.int .i64 0)) := fun w' q => (q.cell bt ot hbt).trans (by simpa using hct 0 0 h00)
        have HORD : Hid (Ref.permB tl = true → Ref.Ord f (Ref.orderTo tl tl.length) ∧ (∀ b, b < f.blocks.length → b ∈ Ref.orderTo tl tl.length) ∧ (∀ t : Int, 0 ≤ t → t < f.blocks.length → Ref.at0 tl t = Ref.toOf (Ref.orderTo tl tl.length) t)) := fun hp => Ref.order_ord hp hl h00
        have HBAD : Hid (Ref.permB tl = false → Ref.renameE f tl = 1 ∧ Ref.renameF f tl = Ref.noFn) := fun hp => by
          have e1 : Ref.renameE f tl = 1 := by
            unfold Ref.renameE
            rw [if_pos h, if_pos ⟨hl, by rw [List.getD_eq_getElem?_getD, h00]; rfl⟩, if_neg (by rw [hp]; decide)]
          exact ⟨e1, by unfold Ref.renameF; rw [if_neg (by omega)]⟩
        have HGOOD : Hid (Ref.permB tl = true → Ref.renameE f tl = 0 ∧ Ref.renameF f tl = Ref.moved f (Ref.orderTo tl tl.length)) := fun hp => by
          have e1 : Ref.renameE f tl = 0 := Ref.renameE_of hv hl h00 hp
          exact ⟨e1, by unfold Ref.renameF; rw [if_pos e1]⟩
        obtain ⟨E, hE⟩ : ∃ E, Ref.renameE f tl = E := ⟨_, rfl⟩
        obtain ⟨F, hF⟩ : ∃ F, Ref.renameF f tl = F := ⟨_, rfl⟩
        rw [hE, hF] at HBAD HGOOD ⊢
        have HIX : Hid (∀ w1, Gr w w1 → ∀ k : Nat, Calls Tryz.prog 31 #[.slice (some ⟨bt, ot, none⟩) tl.length ct, .int .i64 (k : Int)] w1 fun e w' => e = .returned (.int .i64 (Ir.findI (fun z => decide (z = (k : Int))) tl 0)) ∧ w1 = w') := fun w1 q k => Index_any _ tl (k : Int) w1 (ht0.gr q)
        have HAR : Hid (∀ (hp : Ref.permB tl = true) w1 u, Gr w w1 → IntsAt w1.heap.size w1 u ((Ref.orderTo tl tl.length).map fun b : Nat => (b : Int)) → Calls Tryz.prog 17 #[.agg #[.slice Ap f.params.length cp, .int .i64 f.ret, .slice As f.slots.length cs, .slice Ab f.blocks.length cb], u] w1 fun e w' => ∃ A1 c1 A2 c2 A3 c3, e = .returned (.agg #[.slice A1 (Ref.moved f (Ref.orderTo tl tl.length)).params.length c1, .int .i64 (Ref.moved f (Ref.orderTo tl tl.length)).ret, .slice A2 (Ref.moved f (Ref.orderTo tl tl.length)).slots.length c2, .slice A3 (Ref.moved f (Ref.orderTo tl tl.length)).blocks.length c3]) ∧ Hid (CpAt w1.heap.size w' (.agg #[.slice A1 (Ref.moved f (Ref.orderTo tl tl.length)).params.length c1, .int .i64 (Ref.moved f (Ref.orderTo tl tl.length)).ret, .slice A2 (Ref.moved f (Ref.orderTo tl tl.length)).slots.length c2, .slice A3 (Ref.moved f (Ref.orderTo tl tl.length)).blocks.length c3]) (Ref.moved f (Ref.orderTo tl tl.length))) ∧ Gr w1 w') := fun hp w1 u q hu => by
          obtain ⟨o1, o2, o3⟩ := HORD.out hp
          have := arrange_any _ u f (Ref.orderTo tl tl.length) w1 (hf.gr q) hu hv (Ref.keeps_all hv o1 o2)
          rw [Ref.moved_len]; exact this
        rw [hl] at ht1 ht2 HIX ⊢
        clear h hv hf hn hr0' hr1 hB0 hWs hl ht0 ht3 hct h00 hE hF HF
        go_enter Tryz.func11, Tryz.ntmps11
        go_upto_block 0 with (first
          | (go_at_call 10; refine (HV.out _ HB0.out).mono ?_; rintro e w1 ⟨rfl, g1⟩; have HG1 := Lib.hid g1; clear g1 k0 k1 k2 k3; obtain ⟨k0, k1, k2, k3⟩ := KP.out _ HG1.out; have l0 := HT0.out _ (HB0.out.trans HG1.out))
          | (at_make; refine make_ints rfl _ _ rfl w.heap.size f.blocks.length rfl rfl (by omega) (HB0.out.trans HG1.out).size ?_; intro w2 hrow2 hg2; have HR2 := Lib.hid hrow2; have HG2 := Lib.hid (HG1.out.trans hg2); clear k0 k1 k2 k3 l0; clear hrow2 hg2))
        have HBL : Hid (W.heap.size ≤ w1.heap.size) := HG1.out.size
        obtain ⟨hb, hhb⟩ : ∃ hb, w1.heap.size = hb := ⟨_, rfl⟩
        rw [hhb] at HR2 HBL ⊢
        clear hhb
        obtain ⟨k0, k1, k2, k3⟩ := KP.out _ HG2.out
        go_wp2_with (fail)
        go_loopw [34] (fun i wr => ∃ (k : Nat) (ns : List Int), k ≤ f.blocks.length ∧ i = .int .i64 k ∧ Hid (NRow w.heap.size hb f.blocks.length wr ns) ∧ Hid (∀ b : Nat, b < k → ∃ j : Nat, tl[j]? = some (b : Int) ∧ ns[b]? = some (j : Int)) ∧ Hid (Gr W wr)) (fun i _ => f.blocks.length - (intOf i).toNat)
        case atStart => exact ⟨0, _, Nat.zero_le _, rfl, HR2, Lib.hid fun v h => by omega, HG2⟩
        case round =>
          clear k0 k1 k2 k3
          obtain ⟨k, ns, hk, rfl, HR, HT, HG⟩ := hrel
          by_cases hlt : k < f.blocks.length
          · have hln := HR.out.len
            obtain ⟨z, hz⟩ : ∃ z, ns[k]? = some z := ⟨_, List.getElem?_eq_getElem (by omega)⟩
            have q0 := HR.out.cell k z hz
            have q1 := HR.out.frozen k
            have z0 : (0 : Int) ≤ (k : Int) := by omega
            have z1 : (k : Int) < (f.blocks.length : Int) := by omega
            have HI := Lib.hid (HIX.out wr (HB0.out.trans HG.out) k)
            have HLN := Lib.hid hln
            by_cases hm : (k : Int) ∈ tl
            · obtain ⟨j, hj, hf⟩ := findI_mem tl (k : Int) 0 hm
              rw [Nat.zero_add] at hf
              rw [hf] at HI
              have j0 : (0 : Int) ≤ (j : Int) := by omega
              have j1 : decide ((j : Int) < 0) = false := by simp
              have HT2 : Hid (∀ b : Nat, b < k + 1 → ∃ i : Nat, tl[i]? = some (b : Int) ∧ (ns.set k (j : Int))[b]? = some (i : Int)) := fun b hb => by
                rcases (by omega : b < k ∨ b = k) with q | q
                · obtain ⟨i, h1, h2⟩ := HT.out b q
                  exact ⟨i, h1, by rw [List.getElem?_set_ne (by omega)]; exact h2⟩
                · subst q
                  exact ⟨j, hj, by rw [List.getElem?_set_self (by omega)]⟩
              clear hm hj hf hlt hln hz
              go_wp2_with (go_at_call 31; refine HI.out.mono ?_; rintro e w5 ⟨rfl, rfl⟩)
              go_roundw
              case rel => exact ⟨k + 1, _, by omega, by go_num, Lib.hid (HR.out.set_ k (j : Int)), HT2, Lib.hid (HG.out.setCell HBL.out _)⟩
              case measure => simp [intOf] <;> omega
            · rw [findI_not tl (k : Int) 0 hm] at HI
              have HPF : Hid (Ref.permB tl = false) := by
                show _ = _
                cases hp : Ref.permB tl with
                | false => rfl
                | true =>
                  unfold Ref.permB at hp
                  simp only [List.all_eq_true, List.mem_range, decide_eq_true_eq] at hp
                  exact absurd (hp k (by rw [HL.out]; exact hlt)) hm
              obtain ⟨e1, e2⟩ := HBAD.out HPF.out
              clear hm hlt hln hz HPF
              obtain ⟨k0, k1, k2, k3⟩ := KP.out _ HG.out; obtain ⟨⟨b0, b1, b2, b3⟩, f0, f1, f2, f3⟩ := four_facts (KR.out _ HG.out)
              clear k0 k1 k2 k3
              have HE := Lib.hid e1
              have HF2 := Lib.hid e2
              clear e1 e2
              go_wp2_with (go_at_call 31; refine HI.out.mono ?_; rintro e w5 ⟨rfl, rfl⟩)
              refine bodyPost_ret (results_fn2 _ _ 4 5 _ (w.heap.size + 1) _ _ _ _ _ _ rfl rfl rfl (four_stores (KR.out _ HG.out) _ _ _ _) ⟨_, _, _, rfl⟩ ⟨_, rfl⟩ ⟨_, _, _, rfl⟩ ⟨_, _, _, rfl⟩) rfl ?_
              rw [HE.out, HF2.out]
              exact RetF.bad (HB0.out.trans HG.out) (KR.out _ HG.out)
          · obtain rfl : k = f.blocks.length := by omega
            have HPT : Hid (Ref.permB tl = true) := by
              show _ = _
              unfold Ref.permB
              simp only [List.all_eq_true, List.mem_range, decide_eq_true_eq]
              intro b hb
              obtain ⟨j, h1, -⟩ := HT.out b (by rw [← HL.out]; exact hb)
              exact List.mem_of_getElem? h1
            have HNS : Hid (ns = (Ref.orderTo tl tl.length).map fun b : Nat => (b : Int)) := by
              obtain ⟨p1, p2⟩ := Ref.order_perm HPT.out tl.length (Nat.le_refl _)
              refine List.ext_getElem? fun b => ?_
              rcases Nat.lt_or_ge b tl.length with q | q
              · obtain ⟨j, h1, h2⟩ := HT.out b (by rw [← HL.out]; exact q)
                rw [h2, List.getElem?_map, (p2 b j).2 ⟨q, h1⟩]; rfl
              · rw [List.getElem?_eq_none (by rw [HR.out.len, ← HL.out]; exact q), List.getElem?_eq_none (by rw [List.length_map, p1]; exact q)]
            have HNI : Hid (IntsAt wr.heap.size wr (.slice (some ⟨hb, 0, none⟩) f.blocks.length f.blocks.length) ((Ref.orderTo tl tl.length).map fun b : Nat => (b : Int))) := by
              rw [← HNS.out]
              exact (HR.out.ti (by omega)).ints
            obtain ⟨e1, e2⟩ := HGOOD.out HPT.out
            have HA2 := Lib.hid (HAR.out HPT.out)
            have HE := Lib.hid e1
            have HF2 := Lib.hid e2
            have HGW : Hid (Gr w wr) := HB0.out.trans HG.out
            obtain ⟨k0, k1, k2, k3⟩ := KP.out _ HG.out
            clear e1 e2 HPT HAR HBAD HGOOD
            go_wp2_with (go_at_call 17; refine (HA2.out wr _ HGW.out HNI.out).mono ?_; rintro e w4 ⟨A1, c1, A2, c2, A3, c3, rfl, HCP, g4⟩; have HG4 := Lib.hid g4; clear k0 k1 k2 k3; obtain ⟨k0, k1, k2, k3⟩ := KP.out _ (HG.out.trans HG4.out); obtain ⟨⟨b0, b1, b2, b3⟩, f0, f1, f2, f3⟩ := four_facts (KR.out _ (HG.out.trans HG4.out)); clear g4)
            refine bodyPost_ret (results_fn2 _ _ 4 5 _ (w.heap.size + 1) _ _ _ _ _ _ rfl rfl rfl (four_stores (KR.out _ (HG.out.trans HG4.out)) _ _ _ _) ⟨_, _, _, rfl⟩ ⟨_, rfl⟩ ⟨_, _, _, rfl⟩ ⟨_, _, _, rfl⟩) rfl ?_
            rw [HE.out, HF2.out]
            exact RetF.good HGW.out HG4.out (KR.out _ (HG.out.trans HG4.out)) HCP.out
      · have e1 : Ref.renameE f tl = 1 := by
          unfold Ref.renameE
          rw [if_pos h, if_neg]
          rintro ⟨-, q⟩
          rw [List.getD_eq_getElem?_getD, h00] at q
          exact hz q
        have e2 : Ref.renameF f tl = Ref.noFn := by unfold Ref.renameF; rw [if_neg (by omega)]
        rw [e1, e2]
        have c1 : (t0 != 0) = true := by simpa using hz
        have l0 := (HB0.out.cell bt ot hbt).trans (by simpa using hct 0 t0 h00)
        have HL0 : Hid (∀ w', Gr w w' → w'.cell? ⟨bt, ot, none⟩ = some (.int .i64 t0)) := fun w' q => (q.cell bt ot hbt).trans (by simpa using hct 0 t0 h00)
        rw [hl] at ht1 ht2 ⊢
        clear e1 e2 h hv hf hn hr0' hr1 hB0 hWs hl ht0 ht3 hct h00 hz l0
        go_enter Tryz.func11, Tryz.ntmps11
        go_wp2_with (go_at_call 10; refine (HV.out _ HB0.out).mono ?_; rintro e w1 ⟨rfl, g1⟩; have HG1 := Lib.hid g1; clear g1 k0 k1 k2 k3; obtain ⟨k0, k1, k2, k3⟩ := KP.out _ HG1.out; obtain ⟨⟨b0, b1, b2, b3⟩, f0, f1, f2, f3⟩ := four_facts (KR.out _ HG1.out); have l0 := HL0.out _ (HB0.out.trans HG1.out))
        refine bodyPost_ret (results_fn2 _ _ 4 5 _ (w.heap.size + 1) _ _ _ _ _ _ rfl rfl rfl (four_stores (KR.out _ HG1.out) _ _ _ _) ⟨_, _, _, rfl⟩ ⟨_, rfl⟩ ⟨_, _, _, rfl⟩ ⟨_, _, _, rfl⟩) rfl ?_
        exact RetF.bad (HB0.out.trans HG1.out) (KR.out _ HG1.out)
    · have e1 : Ref.renameE f tl = 1 := by
        unfold Ref.renameE
        rw [if_pos h, if_neg (fun q => hl q.1)]
      have e2 : Ref.renameF f tl = Ref.noFn := by unfold Ref.renameF; rw [if_neg (by omega)]
      rw [e1, e2]
      obtain ⟨At, ct, rfl, ht1, ht2, ht3⟩ := ht
      obtain ⟨m, hm⟩ : ∃ m, tl.length = m := ⟨_, rfl⟩
      obtain ⟨n, hn2⟩ : ∃ n, f.blocks.length = n := ⟨_, rfl⟩
      have c1 : ((m : Int) != (n : Int)) = true := by rw [hm, hn2] at hl; simp; omega
      have c2 : (m != n) = true := by rw [hm, hn2] at hl; simpa using hl
      rw [hm] at ht1 ht2 ⊢
      rw [hn2] at KP HV k3 hW ⊢
      clear e1 e2 h hv hf hn hr0' hr1 hB0 hWs hl ht3 hm HF sz3 sz4 hn2
      go_enter Tryz.func11, Tryz.ntmps11
      go_wp2_with (go_at_call 10; refine (HV.out _ HB0.out).mono ?_; rintro e w1 ⟨rfl, g1⟩; have HG1 := Lib.hid g1; clear g1 k0 k1 k2 k3; obtain ⟨k0, k1, k2, k3⟩ := KP.out _ HG1.out; obtain ⟨⟨b0, b1, b2, b3⟩, f0, f1, f2, f3⟩ := four_facts (KR.out _ HG1.out))
      refine bodyPost_ret (results_fn2 _ _ 4 5 _ (w.heap.size + 1) _ _ _ _ _ _ rfl rfl rfl (four_stores (KR.out _ HG1.out) _ _ _ _) ⟨_, _, _, rfl⟩ ⟨_, rfl⟩ ⟨_, _, _, rfl⟩ ⟨_, _, _, rfl⟩) rfl ?_
      exact RetF.bad (HB0.out.trans HG1.out) (KR.out _ HG1.out)
  · -- not valid
    obtain ⟨z, hz⟩ : ∃ z, Ref.validate f = z := ⟨_, rfl⟩
    have HV : Hid (∀ w1, Gr w w1 → Calls Tryz.prog 10 #[.agg #[.slice Ap f.params.length cp, .int .i64 f.ret, .slice As f.slots.length cs, .slice Ab f.blocks.length cb]] w1 fun e w' => e = .returned (.int .i64 z) ∧ Gr w1 w') := fun w1 q => by rw [← hz]; exact ival_nice _ f w1 (hf.gr q) hn
    have hz0 : (z != 0) = true := by rw [hz] at h; simpa using h
    have hz1 : (z == 0) = false := by rw [hz] at h; simpa using h
    rw [show Ref.renameF f tl = Ref.noFn by unfold Ref.renameF Ref.renameE; rw [if_neg h, if_neg h], show Ref.renameE f tl = Ref.validate f by unfold Ref.renameE; rw [if_neg h], hz]
    clear h hz hf hn hr0' hr1 hB0 hWs ht
    go_enter Tryz.func11, Tryz.ntmps11
    go_wp2_with (go_at_call 10; refine (HV.out _ HB0.out).mono ?_; rintro e w1 ⟨rfl, g1⟩; have HG1 := Lib.hid g1; clear g1 k0 k1 k2 k3; obtain ⟨k0, k1, k2, k3⟩ := KP.out _ HG1.out; obtain ⟨⟨b0, b1, b2, b3⟩, f0, f1, f2, f3⟩ := four_facts (KR.out _ HG1.out))
    refine bodyPost_ret (results_fn2 _ _ 4 5 _ (w.heap.size + 1) _ _ _ _ _ _ rfl rfl rfl (four_stores (KR.out _ HG1.out) _ _ _ _) ⟨_, _, _, rfl⟩ ⟨_, rfl⟩ ⟨_, _, _, rfl⟩ ⟨_, _, _, rfl⟩) rfl ?_
    exact RetF.bad (HB0.out.trans HG1.out) (KR.out _ HG1.out)
end Go.Proofs.YtiadpjhlomhjeaaGreat

namespace Go.Proofs.YtiadpjhlomhjeaaGreat
set_option linter.unusedSimpArgs false
set_option linter.unusedVariables false
open Go.RowKit

theorem places_append (b : Int) : ∀ (l : List Int) (t : Int) (k : Nat), Ref.placesFrom b (l ++ [t]) k = Ref.placesFrom b l k ++ (if t = b then [k + l.length] else [])
  | [], t, k => by
    simp only [List.nil_append, Ref.placesFrom, List.length_nil, Nat.add_zero]
  | x :: r, t, k => by
    rw [List.cons_append, Ref.placesFrom, places_append b r t (k + 1), Ref.placesFrom, List.length_cons, show k + 1 + r.length = k + (r.length + 1) by omega]
    by_cases h : x = b
    · rw [if_pos h, if_pos h]; rfl
    · rw [if_neg h, if_neg h]
theorem places_snoc (b : Int) (l : List Int) (j : Nat) (z : Int) (k : Nat) (h : l[j]? = some z) : Ref.placesFrom b (l.take (j + 1)) k = Ref.placesFrom b (l.take j) k ++ (if z = b then [k + j] else []) := by
  have hj := (List.getElem?_eq_some_iff.1 h).1
  rw [List.take_add_one, h]
  show Ref.placesFrom b (l.take j ++ [z]) k = _
  rw [places_append, List.length_take, Nat.min_eq_left (by omega)]
set_option maxRecDepth 100000 in
set_option maxHeartbeats 16000000 in
theorem rRename_any (v vt : Value) (f : Fn) (tl : List Int) (w : World) (hf : FnAt w.heap.size w v f) (ht : IntsAt w.heap.size w vt tl) (hn : Nice f) : Calls Tryz.prog 12 #[v, vt] w (RetF w (Ref.renameF f tl) (Ref.renameE f tl)) := by
  obtain ⟨vp, vs, vb, rfl, hp, hsl, hb⟩ := id hf
  obtain ⟨Ap, cp, rfl, -, -, -⟩ := hp
  obtain ⟨As, cs, rfl, -, -, -⟩ := hsl
  obtain ⟨Ab, cb, rfl, -, -, -⟩ := hb
  obtain ⟨W, hW⟩ : ∃ W, (w.alloc (.cells #[.slice Ap f.params.length cp, .int .i64 f.ret, .slice As f.slots.length cs, .slice Ab f.blocks.length cb] 25)).alloc (.cells #[.slice none 0 0, .int .i64 0, .slice none 0 0, .slice none 0 0] 25) = W := ⟨_, rfl⟩
  have hB0 : Gr w W := by rw [← hW]; exact ((Gr.refl w).alloc _).alloc _
  have hWs : W.heap.size = w.heap.size + 2 := by rw [← hW]; simp
  have hr0' : W.heap[w.heap.size]? = some (.cells #[.slice Ap f.params.length cp, .int .i64 f.ret, .slice As f.slots.length cs, .slice Ab f.blocks.length cb] 25 (0, 0)) := by
    rw [← hW]; exact (((Gr.refl _).alloc _).heap _ (by simp)).trans (heap_alloc_new w _)
  have hr1 : W.heap[w.heap.size + 1]? = some (.cells #[.slice none 0 0, .int .i64 0, .slice none 0 0, .slice none 0 0] 25 (0, 0)) := by
    rw [← hW]; exact heap_alloc2_new w _ _
  have KP : Hid (∀ w', Gr W w' → w'.cell? ⟨w.heap.size, 0, none⟩ = some (.slice Ap f.params.length cp) ∧ w'.cell? ⟨w.heap.size, 1, none⟩ = some (.int .i64 f.ret) ∧ w'.cell? ⟨w.heap.size, 2, none⟩ = some (.slice As f.slots.length cs) ∧ w'.cell? ⟨w.heap.size, 3, none⟩ = some (.slice Ab f.blocks.length cb)) := fun w' q => by
    have h := (q.heap _ (by omega)).trans hr0'
    exact ⟨cell_of_row _ _ 0 _ _ _ h, cell_of_row _ _ 1 _ _ _ h, cell_of_row _ _ 2 _ _ _ h, cell_of_row _ _ 3 _ _ _ h⟩
  have KR : Hid (∀ w', Gr W w' → w'.heap[w.heap.size + 1]? = some (.cells #[.slice none 0 0, .int .i64 0, .slice none 0 0, .slice none 0 0] 25 (0, 0))) := fun w' q => (q.heap _ (by omega)).trans hr1
  have HB0 := Lib.hid hB0
  have HF := Lib.hid hf
  obtain ⟨k0, k1, k2, k3⟩ := KP.out W (Gr.refl W)
  by_cases h : Ref.validate f = 0
  · have hv := (Ref.val_iff f).1 h
    have sz3 := hv.size.2.2.1
    have sz4 := hv.size.2.2.2.1
    have HV : Hid (∀ w1, Gr w w1 → Calls Tryz.prog 18 #[.agg #[.slice Ap f.params.length cp, .int .i64 f.ret, .slice As f.slots.length cs, .slice Ab f.blocks.length cb]] w1 fun e w' => e = .returned (.int .i64 0) ∧ Gr w1 w') := fun w1 q => by rw [← h]; exact rval_nice _ f w1 (hf.gr q) hn
    by_cases hl : tl.length = f.blocks.length
    · have ht0 := ht
      obtain ⟨At, ct, rfl, ht1, ht2, ht3⟩ := ht
      obtain ⟨bt, ot, rfl, hbt, hct⟩ := ht3 (by omega)
      obtain ⟨t0, h00⟩ : ∃ t0, tl[0]? = some t0 := ⟨_, List.getElem?_eq_getElem (by omega)⟩
      by_cases hz : t0 = 0
      · subst hz
        have Hbackstayref03.Validate := Lib.hid hv
        have HL := Lib.hid hl
        have HTV := Lib.hid ht0
        have H00 := Lib.hid h00
        have HZ := Lib.hid h
        have HTC : Hid (∀ w', Gr w w' → ∀ (j : Nat) z, tl[j]? = some z → w'.cell? ⟨bt, ot + j, none⟩ = some (.int .i64 z)) := fun w' q j z hj => (q.cell bt (ot + j) hbt).trans (hct j z hj)
        have HT0 : Hid (∀ w', Gr w w' → w'.cell? ⟨bt, ot, none⟩ = some (.int .i64 0)) := fun w' q => (q.cell bt ot hbt).trans (by simpa using hct 0 0 h00)
        have HORD : Hid (Ref.permB tl = true → Ref.Ord f (Ref.orderTo tl tl.length) ∧ (∀ b, b < f.blocks.length → b ∈ Ref.orderTo tl tl.length) ∧ (∀ t : Int, 0 ≤ t → t < f.blocks.length → Ref.at0 tl t = Ref.toOf (Ref.orderTo tl tl.length) t)) := fun hp => Ref.order_ord hp hl h00
        have HBAD : Hid (Ref.permB tl = false → Ref.renameE f tl = 1 ∧ Ref.renameF f tl = Ref.noFn) := fun hp => by
          have e1 : Ref.renameE f tl = 1 := by
            unfold Ref.renameE
            rw [if_pos h, if_pos ⟨hl, by rw [List.getD_eq_getElem?_getD, h00]; rfl⟩, if_neg (by rw [hp]; decide)]
          exact ⟨e1, by unfold Ref.renameF; rw [if_neg (by omega)]⟩
        have HGOOD : Hid (Ref.permB tl = true → Ref.renameE f tl = 0 ∧ Ref.renameF f tl = Ref.moved f (Ref.orderTo tl tl.length)) := fun hp => by
          have e1 : Ref.renameE f tl = 0 := Ref.renameE_of hv hl h00 hp
          exact ⟨e1, by unfold Ref.renameF; rw [if_pos e1]⟩
        obtain ⟨E, hE⟩ : ∃ E, Ref.renameE f tl = E := ⟨_, rfl⟩
        obtain ⟨F, hF⟩ : ∃ F, Ref.renameF f tl = F := ⟨_, rfl⟩
        rw [hE, hF] at HBAD HGOOD ⊢
        obtain ⟨i0, hi0, hx0, hx1, hx2⟩ := info_parts info_int
        have HAR : Hid (∀ (hp : Ref.permB tl = true) w1 u, Gr w w1 → IntsAt w1.heap.size w1 u ((Ref.orderTo tl tl.length).map fun b : Nat => (b : Int)) → Calls Tryz.prog 20 #[.agg #[.slice Ap f.params.length cp, .int .i64 f.ret, .slice As f.slots.length cs, .slice Ab f.blocks.length cb], u, .slice (some ⟨bt, ot, none⟩) f.blocks.length ct] w1 fun e w' => ∃ A1 c1 A2 c2 A3 c3, e = .returned (.agg #[.slice A1 (Ref.moved f (Ref.orderTo tl tl.length)).params.length c1, .int .i64 (Ref.moved f (Ref.orderTo tl tl.length)).ret, .slice A2 (Ref.moved f (Ref.orderTo tl tl.length)).slots.length c2, .slice A3 (Ref.moved f (Ref.orderTo tl tl.length)).blocks.length c3]) ∧ Hid (CpAt w1.heap.size w' (.agg #[.slice A1 (Ref.moved f (Ref.orderTo tl tl.length)).params.length c1, .int .i64 (Ref.moved f (Ref.orderTo tl tl.length)).ret, .slice A2 (Ref.moved f (Ref.orderTo tl tl.length)).slots.length c2, .slice A3 (Ref.moved f (Ref.orderTo tl tl.length)).blocks.length c3]) (Ref.moved f (Ref.orderTo tl tl.length))) ∧ Gr w1 w') := fun hp w1 u q hu => by
          obtain ⟨o1, o2, o3⟩ := HORD.out hp
          have h7 := ht0.gr q
          have e7 : Value.slice (some ⟨bt, ot, none⟩) tl.length ct = .slice (some ⟨bt, ot, none⟩) f.blocks.length ct := by rw [hl]
          rw [e7] at h7
          have := moved_any _ u _ f (Ref.orderTo tl tl.length) tl w1 (hf.gr q) hu h7 hv (Ref.keeps_all hv o1 o2) hl o3
          rw [Ref.moved_len]; exact this
        have HTW : Hid (∀ z ∈ tl, ∀ (b : Nat), z = (b : Int) ∨ z ≠ (b : Int)) := fun z _ b => Decidable.em _
        rw [hl] at ht1 ht2 ⊢
        clear h hv hf hn hr0' hr1 hB0 hWs hl ht0 ht3 hct h00 hE hF HF
        go_enter Tryz.func12, Tryz.ntmps12
        go_upto_block 0 with (go_at_call 18; refine (HV.out _ HB0.out).mono ?_; rintro e w1 ⟨rfl, g1⟩; have HG1 := Lib.hid g1; clear g1 k0 k1 k2 k3; obtain ⟨k0, k1, k2, k3⟩ := KP.out _ HG1.out; have l0 := HT0.out _ (HB0.out.trans HG1.out))
        clear l0
        go_wp2_with (fail)
        go_loopw [8, 9, 10] (fun v8 i _ wr => ∃ k : Nat, k ≤ f.blocks.length ∧ i = .int .i64 k ∧ Hid (Own1 w1.heap.size 3 wr v8 ((Ref.orderTo tl k).map fun b : Nat => Value.int .i64 (b : Int))) ∧ Hid (∀ c : Nat, c < k → (Ref.orderTo tl (c + 1)).length = c + 1) ∧ Hid (Gr w1 wr)) (fun _ i _ _ => f.blocks.length - (intOf i).toNat)
        case atStart => exact ⟨0, Nat.zero_le _, rfl, Own1.nil _ _ _, Lib.hid fun v h => by omega, Gr.refl _⟩
        case round =>
          clear k0 k1 k2 k3
          obtain ⟨k, hk, rfl, HO, HC, HG⟩ := hrel
          have HGX : Hid (Gr W wr) := HG1.out.trans HG.out
          have HOL : Hid ((Ref.orderTo tl k).length = k) := by
            show _ = _
            cases k with
            | zero => simp [Ref.orderTo]
            | succ c => exact HC.out c (Nat.lt_succ_self c)
          by_cases hlt : k < f.blocks.length
          · have z0 : (0 : Int) ≤ (k : Int) := by omega
            have z1 : (k : Int) < (f.blocks.length : Int) := by omega
            obtain ⟨L, hL⟩ : ∃ L, Ref.orderTo tl k = L := ⟨_, rfl⟩
            have HLE := Lib.hid hL
            rw [hL] at HO HOL
            clear hL
            have HO0 : Hid (Own1 w1.heap.size 3 wr u8 ((L ++ Ref.placesFrom (k : Int) (tl.take 0) 0).map fun b : Nat => Value.int .i64 (b : Int))) := by
              show Own1 _ _ _ _ _
              have e : Ref.placesFrom (k : Int) (tl.take 0) 0 = [] := rfl
              rw [e, List.append_nil]
              exact HO.out
            have HWR : ∃ wo, wo = wr := ⟨_, rfl⟩
            obtain ⟨wo, ewo⟩ := HWR
            subst ewo
            clear HO hlt
            go_wp2_with (fail)
            go_loopw [8, 10] (fun v8 i wr => ∃ j : Nat, j ≤ f.blocks.length ∧ i = .int .i64 j ∧ Hid (Own1 w1.heap.size 3 wr v8 ((L ++ Ref.placesFrom (k : Int) (tl.take j) 0).map fun b : Nat => Value.int .i64 (b : Int))) ∧ Hid (Gr w1 wr)) (fun _ i _ => f.blocks.length - (intOf i).toNat)
            case atStart => exact ⟨0, Nat.zero_le _, rfl, HO0, HG⟩
            case round =>
              clear HO0 HG HGX
              obtain ⟨j, hj, rfl, HO, HG⟩ := hrel
              have HGX : Hid (Gr W wr) := HG1.out.trans HG.out
              by_cases hlt : j < f.blocks.length
              · obtain ⟨z, hz⟩ : ∃ z, tl[j]? = some z := ⟨_, List.getElem?_eq_getElem (by rw [HL.out]; exact hlt)⟩
                have l1 := HTC.out _ (HB0.out.trans HGX.out) j z hz
                have y0 : (0 : Int) ≤ (j : Int) := by omega
                have y1 : (j : Int) < (f.blocks.length : Int) := by omega
                have HPS := Lib.hid (places_snoc (k : Int) tl j z 0 hz)
                have hpl : (L ++ Ref.placesFrom (k : Int) (tl.take j) 0).length ≤ 100 := by
                  rw [List.length_append, HOL.out, Ref.placesFrom_len]
                  have := List.count_le_length (a := (k : Int)) (l := tl.take j)
                  rw [List.length_take] at this
                  omega
                obtain ⟨M, hM⟩ : ∃ M, L ++ Ref.placesFrom (k : Int) (tl.take j) 0 = M := ⟨_, rfl⟩
                rw [hM] at HO hpl
                have HME := Lib.hid hM
                clear hM hz hlt
                by_cases hzk : z = (k : Int)
                · have HM2 : Hid (L ++ Ref.placesFrom (k : Int) (tl.take (j + 1)) 0 = M ++ [j]) := by show _ = _; rw [HPS.out, if_pos hzk, ← List.append_assoc, HME.out, Nat.zero_add]
                  rw [hzk] at l1
                  clear hzk HPS
                  have hsz1 : w1.heap.size ≤ wr.heap.size := HG.out.size
                  obtain ⟨A6, c6, rfl⟩ := HO.out.form
                  rw [List.length_map] at HO ⊢
                  have hll : (M.map fun b : Nat => Value.int .i64 (b : Int)).length = M.length := List.length_map _
                  have hlt6 : (M.map fun b : Nat => Value.int .i64 (b : Int)).length < 1099511627776 := by rw [hll]; omega
                  clear hll
                  go_wp2_with (at_builtin; refine app1 (v := .slice A6 M.length c6) Tryz.underlying22 hi0 hx0 hx1 hx2 rfl (by omega) rfl (.tmp 47) (.tmp 49) rfl rfl HO.out rfl rfl hlt6 hsz1 ?_; intro A7 c7 w5 ho5 hb5 hg5; have HO5 := Lib.hid ho5; have HG5 : Hid (Gr w1 w5) := HG.out.below hb5 (Nat.le_refl _); clear ho5 hb5 hg5)
                  go_roundw
                  case rel => exact ⟨j + 1, by omega, by go_num, by (show Own1 _ _ _ _ _); have h5 := HO5.out; rw [List.length_map] at h5; rw [HM2.out, List.map_append]; exact h5, HG5⟩
                  case measure => simp [intOf] <;> omega
                · have HM2 : Hid (L ++ Ref.placesFrom (k : Int) (tl.take (j + 1)) 0 = M) := by show _ = _; rw [HPS.out, if_neg hzk, List.append_nil]; exact HME.out
                  have c1 : (z == (k : Int)) = false := by simpa using hzk
                  clear hzk HPS
                  go_wp2_with (fail)
                  go_roundw
                  case rel => exact ⟨j + 1, by omega, by go_num, by (show Own1 _ _ _ _ _); rw [HM2.out]; exact HO.out, HG⟩
                  case measure => simp [intOf] <;> omega
              · obtain rfl : j = f.blocks.length := by omega
                have HOE : Hid (L ++ Ref.placesFrom (k : Int) (tl.take f.blocks.length) 0 = Ref.orderTo tl (k + 1)) := by
                  show _ = _
                  rw [Ref.orderTo_succ, HLE.out, ← HL.out, List.take_length]
                rw [HOE.out] at HO
                obtain ⟨A6, c6, rfl⟩ := HO.out.form
                rw [List.length_map] at HO ⊢
                clear hlt
                by_cases hq : (Ref.orderTo tl (k + 1)).length = k + 1
                · have HQ := Lib.hid hq
                  rw [hq] at HO ⊢
                  clear hq
                  go_wp2_with (fail)
                  go_roundw
                  case rel => exact ⟨k + 1, by omega, by go_num, HO, Lib.hid fun c hc => by (rcases (by omega : c < k ∨ c = k) with q | q; exact HC.out c q; rw [q]; exact HQ.out), HG⟩
                  case measure => simp [intOf] <;> omega
                · have HPF : Hid (Ref.permB tl = false) := by
                    show _ = _
                    cases hp : Ref.permB tl with
                    | false => rfl
                    | true => exact absurd (Ref.order_perm hp (k + 1) (by rw [HL.out]; omega)).1 hq
                  obtain ⟨e1, e2⟩ := HBAD.out HPF.out
                  have HE := Lib.hid e1
                  have HF2 := Lib.hid e2
                  obtain ⟨m, hm⟩ : ∃ m, (Ref.orderTo tl (k + 1)).length = m := ⟨_, rfl⟩
                  rw [hm] at hq HO ⊢
                  have c1 : ((m : Int) != (k : Int) + 1) = true := by simp; omega
                  have c2 : (m != k + 1) = true := by simpa using hq
                  clear hm hq HPF e1 e2
                  obtain ⟨k0, k1, k2, k3⟩ := KP.out _ HGX.out; obtain ⟨⟨b0, b1, b2, b3⟩, f0, f1, f2, f3⟩ := four_facts (KR.out _ HGX.out)
                  clear k0 k1 k2 k3
                  go_wp2_with (fail)
                  refine bodyPost_ret (results_fn2 _ _ 4 5 _ (w.heap.size + 1) _ _ _ _ _ _ rfl rfl rfl (four_stores (KR.out _ HGX.out) _ _ _ _) ⟨_, _, _, rfl⟩ ⟨_, rfl⟩ ⟨_, _, _, rfl⟩ ⟨_, _, _, rfl⟩) rfl ?_
                  rw [HE.out, HF2.out]
                  exact RetF.bad (HB0.out.trans HGX.out) (KR.out _ HGX.out)
          · obtain rfl : k = f.blocks.length := by omega
            have HPT : Hid (Ref.permB tl = true) := by
              show _ = _
              cases hp : Ref.permB tl with
              | true => rfl
              | false =>
                obtain ⟨b, h1, h2⟩ := Ref.order_fails hp
                exact absurd (HC.out b (by rw [← HL.out]; exact h1)) h2
            have HNI : Hid (IntsAt wr.heap.size wr u8 ((Ref.orderTo tl tl.length).map fun b : Nat => (b : Int))) := by
              have h2 : Own1 w1.heap.size 3 wr u8 (((Ref.orderTo tl tl.length).map fun b : Nat => (b : Int)).map (Value.int .i64)) := by rw [List.map_map, HL.out]; exact HO.out
              exact h2.ints (by rw [List.length_map, HL.out, HOL.out]; omega)
            obtain ⟨e1, e2⟩ := HGOOD.out HPT.out
            have HA2 := Lib.hid (HAR.out HPT.out)
            have HE := Lib.hid e1
            have HF2 := Lib.hid e2
            have HGW : Hid (Gr w wr) := HB0.out.trans HGX.out
            obtain ⟨k0, k1, k2, k3⟩ := KP.out _ HGX.out
            obtain ⟨A6, c6, hv6⟩ := HO.out.form
            rw [List.length_map] at hv6
            subst hv6
            clear e1 e2 HPT HAR HBAD HGOOD HO HOL
            go_wp2_with (go_at_call 20; refine (HA2.out wr _ HGW.out HNI.out).mono ?_; rintro e w4 ⟨A1, c1, A2, c2, A3, c3, rfl, HCP, g4⟩; have HG4 := Lib.hid g4; clear k0 k1 k2 k3; obtain ⟨k0, k1, k2, k3⟩ := KP.out _ (HGX.out.trans HG4.out); obtain ⟨⟨b0, b1, b2, b3⟩, f0, f1, f2, f3⟩ := four_facts (KR.out _ (HGX.out.trans HG4.out)); clear g4)
            refine bodyPost_ret (results_fn2 _ _ 4 5 _ (w.heap.size + 1) _ _ _ _ _ _ rfl rfl rfl (four_stores (KR.out _ (HGX.out.trans HG4.out)) _ _ _ _) ⟨_, _, _, rfl⟩ ⟨_, rfl⟩ ⟨_, _, _, rfl⟩ ⟨_, _, _, rfl⟩) rfl ?_
            rw [HE.out, HF2.out]
            exact RetF.good HGW.out HG4.out (KR.out _ (HGX.out.trans HG4.out)) HCP.out
      · have e1 : Ref.renameE f tl = 1 := by
          unfold Ref.renameE
          rw [if_pos h, if_neg]
          rintro ⟨-, q⟩
          rw [List.getD_eq_getElem?_getD, h00] at q
          exact hz q
        have e2 : Ref.renameF f tl = Ref.noFn := by unfold Ref.renameF; rw [if_neg (by omega)]
        rw [e1, e2]
        have c1 : (t0 != 0) = true := by simpa using hz
        have l0 := (HB0.out.cell bt ot hbt).trans (by simpa using hct 0 t0 h00)
        have HL0 : Hid (∀ w', Gr w w' → w'.cell? ⟨bt, ot, none⟩ = some (.int .i64 t0)) := fun w' q => (q.cell bt ot hbt).trans (by simpa using hct 0 t0 h00)
        rw [hl] at ht1 ht2 ⊢
        clear e1 e2 h hv hf hn hr0' hr1 hB0 hWs hl ht0 ht3 hct h00 hz l0
        go_enter Tryz.func12, Tryz.ntmps12
        go_wp2_with (go_at_call 18; refine (HV.out _ HB0.out).mono ?_; rintro e w1 ⟨rfl, g1⟩; have HG1 := Lib.hid g1; clear g1 k0 k1 k2 k3; obtain ⟨k0, k1, k2, k3⟩ := KP.out _ HG1.out; obtain ⟨⟨b0, b1, b2, b3⟩, f0, f1, f2, f3⟩ := four_facts (KR.out _ HG1.out); have l0 := HL0.out _ (HB0.out.trans HG1.out))
        refine bodyPost_ret (results_fn2 _ _ 4 5 _ (w.heap.size + 1) _ _ _ _ _ _ rfl rfl rfl (four_stores (KR.out _ HG1.out) _ _ _ _) ⟨_, _, _, rfl⟩ ⟨_, rfl⟩ ⟨_, _, _, rfl⟩ ⟨_, _, _, rfl⟩) rfl ?_
        exact RetF.bad (HB0.out.trans HG1.out) (KR.out _ HG1.out)
    · have e1 : Ref.renameE f tl = 1 := by
        unfold Ref.renameE
        rw [if_pos h, if_neg (fun q => hl q.1)]
      have e2 : Ref.renameF f tl = Ref.noFn := by unfold Ref.renameF; rw [if_neg (by omega)]
      rw [e1, e2]
      obtain ⟨At, ct, rfl, ht1, ht2, ht3⟩ := ht
      obtain ⟨m, hm⟩ : ∃ m, tl.length = m := ⟨_, rfl⟩
      obtain ⟨n, hn2⟩ : ∃ n, f.blocks.length = n := ⟨_, rfl⟩
      have c1 : ((m : Int) != (n : Int)) = true := by rw [hm, hn2] at hl; simp; omega
      have c2 : (m != n) = true := by rw [hm, hn2] at hl; simpa using hl
      rw [hm] at ht1 ht2 ⊢
      rw [hn2] at KP HV k3 hW ⊢
      clear e1 e2 h hv hf hn hr0' hr1 hB0 hWs hl ht3 hm HF sz3 sz4 hn2
      go_enter Tryz.func12, Tryz.ntmps12
      go_wp2_with (go_at_call 18; refine (HV.out _ HB0.out).mono ?_; rintro e w1 ⟨rfl, g1⟩; have HG1 := Lib.hid g1; clear g1 k0 k1 k2 k3; obtain ⟨k0, k1, k2, k3⟩ := KP.out _ HG1.out; obtain ⟨⟨b0, b1, b2, b3⟩, f0, f1, f2, f3⟩ := four_facts (KR.out _ HG1.out))
      refine bodyPost_ret (results_fn2 _ _ 4 5 _ (w.heap.size + 1) _ _ _ _ _ _ rfl rfl rfl (four_stores (KR.out _ HG1.out) _ _ _ _) ⟨_, _, _, rfl⟩ ⟨_, rfl⟩ ⟨_, _, _, rfl⟩ ⟨_, _, _, rfl⟩) rfl ?_
      exact RetF.bad (HB0.out.trans HG1.out) (KR.out _ HG1.out)
  · -- not valid
    obtain ⟨z, hz⟩ : ∃ z, Ref.validate f = z := ⟨_, rfl⟩
    have HV : Hid (∀ w1, Gr w w1 → Calls Tryz.prog 18 #[.agg #[.slice Ap f.params.length cp, .int .i64 f.ret, .slice As f.slots.length cs, .slice Ab f.blocks.length cb]] w1 fun e w' => e = .returned (.int .i64 z) ∧ Gr w1 w') := fun w1 q => by rw [← hz]; exact rval_nice _ f w1 (hf.gr q) hn
    have hz0 : (z != 0) = true := by rw [hz] at h; simpa using h
    have hz1 : (z == 0) = false := by rw [hz] at h; simpa using h
    rw [show Ref.renameF f tl = Ref.noFn by unfold Ref.renameF Ref.renameE; rw [if_neg h, if_neg h], show Ref.renameE f tl = Ref.validate f by unfold Ref.renameE; rw [if_neg h], hz]
    clear h hz hf hn hr0' hr1 hB0 hWs ht
    go_enter Tryz.func12, Tryz.ntmps12
    go_wp2_with (go_at_call 18; refine (HV.out _ HB0.out).mono ?_; rintro e w1 ⟨rfl, g1⟩; have HG1 := Lib.hid g1; clear g1 k0 k1 k2 k3; obtain ⟨k0, k1, k2, k3⟩ := KP.out _ HG1.out; obtain ⟨⟨b0, b1, b2, b3⟩, f0, f1, f2, f3⟩ := four_facts (KR.out _ HG1.out))
    refine bodyPost_ret (results_fn2 _ _ 4 5 _ (w.heap.size + 1) _ _ _ _ _ _ rfl rfl rfl (four_stores (KR.out _ HG1.out) _ _ _ _) ⟨_, _, _, rfl⟩ ⟨_, rfl⟩ ⟨_, _, _, rfl⟩ ⟨_, _, _, rfl⟩) rfl ?_
    exact RetF.bad (HB0.out.trans HG1.out) (KR.out _ HG1.out)
end Go.Proofs.YtiadpjhlomhjeaaGreat

namespace Go.Proofs.YtiadpjhlomhjeaaGreat
set_option linter.unusedSimpArgs false
set_option linter.unusedVariables false
open Go.RowKit

theorem RetF.out {w w' : World} {F : Fn} {E : Int} {e : Ending} (h : RetF w F E e w') (hs : F.blocks.length ≤ 17592186044416) :
    ∃ a1 a1c a2 a2c a3 a3c, e = .returned (.tuple #[.agg #[.slice a1 F.params.length a1c, .int .i64 F.ret, .slice a2 F.slots.length a2c, .slice a3 F.blocks.length a3c], .int .i64 E]) ∧ Hid (FnAt w'.heap.size w' (.agg #[.slice a1 F.params.length a1c, .int .i64 F.ret, .slice a2 F.slots.length a2c, .slice a3 F.blocks.length a3c]) F) ∧ Gr w w' := by
  obtain ⟨A1, c1, A2, c2, A3, c3, he, hc, hg⟩ := h
  exact ⟨A1, c1, A2, c2, A3, c3, he, hc.fn hs, hg⟩
theorem nice_moved {f : Fn} {o : List Nat} (hn : Nice f) (hv : Ref.Val (Ref.moved f o)) (ho : Ref.Ord f o) : Nice (Ref.moved f o) := by
  have hsz := hv.size
  have key : ∀ l ∈ (Ref.moved f o).blocks, ∀ x ∈ l, (∃ l0 ∈ f.blocks, ∃ y ∈ l0, x = Ref.renum f o y) ∧ x.args.length ≤ 10 ∧ x.to.length ≤ 10 ∧ ∀ z ∈ x.args, 0 ≤ z ∧ z < Ref.count (Ref.moved f o) := by
    intro l hl x hx
    obtain ⟨k, hk⟩ := List.getElem?_of_mem hl
    obtain ⟨q1, q2, q3, q4, q5⟩ := Ref.ins_facts hv hk hx
    obtain ⟨b, l0, hb, hl0, rfl⟩ := Ref.moved_blk' ho hk
    obtain ⟨y, hy, rfl⟩ := List.mem_map.1 hx
    exact ⟨⟨l0, List.mem_of_getElem? hl0, y, hy, rfl⟩, q4, q5, q2⟩
  have hN : Ref.count (Ref.moved f o) ≤ 43 := by unfold Ref.count Ref.number; rw [List.take_length]; omega
  refine ⟨by omega, fun l hl => ?_, fun l hl x hx => ?_, fun l hl x hx => ?_⟩
  · have : l.length ≤ Ref.total (Ref.moved f o).blocks := by
      obtain ⟨k, hk⟩ := List.getElem?_of_mem hl
      have h1 := Ref.number_count _ hk
      unfold Ref.count Ref.number at h1
      rw [List.take_length] at h1
      omega
    omega
  · obtain ⟨⟨l0, hl0, y, hy, rfl⟩, h1, h2, h3⟩ := key l hl x hx
    obtain ⟨p1, p2, p3, p4⟩ := Ref.renum_parts f o y
    refine ⟨by rw [p4]; exact (hn.wf l0 hl0 y hy).1, fun z hz => ?_, by omega, by omega⟩
    have := h3 z hz
    omega
  · obtain ⟨⟨l0, hl0, y, hy, rfl⟩, h1, h2, h3⟩ := key l hl x hx
    obtain ⟨p1, p2, p3, p4⟩ := Ref.renum_parts f o y
    rw [p3]
    exact hn.flags l0 hl0 y hy
theorem box4 {V w' : World} {B : Nat} {T : TypeId} {x0 x1 x2 x3 : Value} (h : V.heap[B]? = some (.cells #[x0, x1, x2, x3] T (0, 0))) (g : Gr V w') : w'.cell? ⟨B, 0, none⟩ = some x0 ∧ w'.cell? ⟨B, 1, none⟩ = some x1 ∧ w'.cell? ⟨B, 2, none⟩ = some x2 ∧ w'.cell? ⟨B, 3, none⟩ = some x3 :=
  (four_facts ((g.heap _ (Array.getElem?_eq_some_iff.1 h).1).trans h)).1
set_option maxRecDepth 100000 in
set_option maxHeartbeats 16000000 in
theorem lawPrunes_any (v : Value) (f : Fn) (w : World) (hf : FnAt w.heap.size w v f) (hn : longFn f = false → Nice f) :
    Calls Tryz.prog 3 #[v] w fun e w' => e = .returned (.bool true) ∧ Gr w w' := by
  have HL : Hid (∀ w1, Gr w w1 → Calls Tryz.prog 5 #[v] w1 fun e w' => e = .returned (.bool (longFn f)) ∧ Gr w1 w') := fun w1 q => Long_any v f w1 (hf.gr q)
  have HKN : Hid (∀ w1, Calls Tryz.prog 6 #[] w1 fun e w' => e = .returned (.bool true) ∧ Gr w1 w') := known_any
  have hf0 := hf
  obtain ⟨vp, vs, vb, rfl, hp, hsl, hb⟩ := hf
  obtain ⟨Ap, cp, rfl, -, -, -⟩ := hp
  obtain ⟨As, cs, rfl, -, -, -⟩ := hsl
  obtain ⟨Ab, cb, rfl, -, -, -⟩ := hb
  obtain ⟨W, hW⟩ : ∃ W, w.alloc (.cells #[.slice Ap f.params.length cp, .int .i64 f.ret, .slice As f.slots.length cs, .slice Ab f.blocks.length cb] 25) = W := ⟨_, rfl⟩
  have hB0 : Gr w W := by rw [← hW]; exact (Gr.refl w).alloc _
  have HB0 := Lib.hid hB0
  have HR0 : Hid (W.heap[w.heap.size]? = some (.cells #[.slice Ap f.params.length cp, .int .i64 f.ret, .slice As f.slots.length cs, .slice Ab f.blocks.length cb] 25 (0, 0))) := by rw [← hW]; exact heap_alloc_new w _
  have KP : Hid (∀ w', Gr W w' → (w'.cell? ⟨w.heap.size, 0, none⟩ = some (.slice Ap f.params.length cp) ∧ w'.cell? ⟨w.heap.size, 1, none⟩ = some (.int .i64 f.ret) ∧ w'.cell? ⟨w.heap.size, 2, none⟩ = some (.slice As f.slots.length cs) ∧ w'.cell? ⟨w.heap.size, 3, none⟩ = some (.slice Ab f.blocks.length cb))) := fun w' q => box4 HR0.out q
  obtain ⟨k0, k1, k2, k3⟩ := KP.out W (Gr.refl _)
  cases hlg : longFn f with
  | true =>
    rw [hlg] at HL
    clear hlg hn hf0 hB0
    go_enter Tryz.func3, Tryz.ntmps3
    go_wp2_with (first
      | (go_at_call 5; refine (HL.out _ HB0.out).mono ?_; rintro e w1 ⟨rfl, g1⟩; have HG1 := Lib.hid g1; clear g1)
      | (go_at_call 6; refine (HKN.out _).mono ?_; rintro e w2 ⟨rfl, g2⟩; have HG2 := Lib.hid g2; clear g2))
    go_ret
    exact ⟨rfl, HB0.out.trans (HG1.out.trans HG2.out)⟩
  | false =>
    rw [hlg] at HL
    have hnf := hn hlg
    obtain ⟨E, hE⟩ : ∃ E, Ref.pruneE f = E := ⟨_, rfl⟩
    obtain ⟨F, hF⟩ : ∃ F, Ref.pruneF f = F := ⟨_, rfl⟩
    have hFS : F.blocks.length ≤ 17592186044416 := by
      rw [← hF]
      unfold Ref.pruneF
      split
      · next h =>
        have hv := (Ref.val_iff f).1 h
        rw [Ref.moved_len]
        have := (Ref.keeps_reached rcAll hv).toOrd.short
        have := hv.size.2.2.2.1
        omega
      · simp [Ref.noFn]
    have HP : Hid (∀ w1, Gr w w1 → Calls Tryz.prog 7 #[.agg #[.slice Ap f.params.length cp, .int .i64 f.ret, .slice As f.slots.length cs, .slice Ab f.blocks.length cb]] w1 fun e w' => ∃ a1 a1c a2 a2c a3 a3c, e = .returned (.tuple #[.agg #[.slice a1 F.params.length a1c, .int .i64 F.ret, .slice a2 F.slots.length a2c, .slice a3 F.blocks.length a3c], .int .i64 E]) ∧ Hid (FnAt w'.heap.size w' (.agg #[.slice a1 F.params.length a1c, .int .i64 F.ret, .slice a2 F.slots.length a2c, .slice a3 F.blocks.length a3c]) F) ∧ Gr w1 w') := fun w1 q => by
      have := iPrune_any _ f w1 (hf0.gr q) hnf
      rw [hE, hF] at this
      exact this.mono fun e w' h => h.out hFS
    have HQ : Hid (∀ w1, Gr w w1 → Calls Tryz.prog 8 #[.agg #[.slice Ap f.params.length cp, .int .i64 f.ret, .slice As f.slots.length cs, .slice Ab f.blocks.length cb]] w1 fun e w' => ∃ a1 a1c a2 a2c a3 a3c, e = .returned (.tuple #[.agg #[.slice a1 F.params.length a1c, .int .i64 F.ret, .slice a2 F.slots.length a2c, .slice a3 F.blocks.length a3c], .int .i64 E]) ∧ Hid (FnAt w'.heap.size w' (.agg #[.slice a1 F.params.length a1c, .int .i64 F.ret, .slice a2 F.slots.length a2c, .slice a3 F.blocks.length a3c]) F) ∧ Gr w1 w') := fun w1 q => by
      have := rPrune_any _ f w1 (hf0.gr q) hnf
      rw [hE, hF] at this
      exact this.mono fun e w' h => h.out hFS
    have HSA : Hid (∀ w1 v1 v2, FnAt w1.heap.size w1 v1 F → FnAt w1.heap.size w1 v2 F → Calls Tryz.prog 9 #[v1, v2] w1 fun e w' => e = .returned (.bool true) ∧ Gr w1 w') := fun w1 v1 v2 h1 h2 => by
      have := rSame_any v1 v2 F F w1 h1 h2
      simpa using this
    have hEE : (E != E) = false := by simp
    by_cases hz : E = 0
    · subst hz
      have hE0 : Ref.validate f = 0 := hE
      have hv := (Ref.val_iff f).1 hE0
      obtain ⟨hvF, hpF⟩ := Ref.prune_law rcAll hE0
      rw [hF] at hvF hpF
      have hnF : Nice F := by
        have e2 : F = Ref.moved f (Ref.kept f) := by rw [← hF]; unfold Ref.pruneF; rw [if_pos hE0]
        rw [e2] at hvF ⊢
        exact nice_moved hnf hvF (Ref.keeps_reached rcAll hv).toOrd
      have hEF : Ref.pruneE F = 0 := (Ref.val_iff F).2 hvF
      have HP2 : Hid (∀ w1 v1, FnAt w1.heap.size w1 v1 F → Calls Tryz.prog 7 #[v1] w1 fun e w' => ∃ a1 a1c a2 a2c a3 a3c, e = .returned (.tuple #[.agg #[.slice a1 F.params.length a1c, .int .i64 F.ret, .slice a2 F.slots.length a2c, .slice a3 F.blocks.length a3c], .int .i64 0]) ∧ Hid (FnAt w'.heap.size w' (.agg #[.slice a1 F.params.length a1c, .int .i64 F.ret, .slice a2 F.slots.length a2c, .slice a3 F.blocks.length a3c]) F) ∧ Gr w1 w') := fun w1 v1 h1 => by
        have := iPrune_any v1 F w1 h1 hnF
        rw [hEF, hpF] at this
        exact this.mono fun e w' h => h.out hFS
      have HV : Hid (∀ w1 v1, FnAt w1.heap.size w1 v1 F → Calls Tryz.prog 10 #[v1] w1 fun e w' => e = .returned (.int .i64 0) ∧ Gr w1 w') := fun w1 v1 h1 => by
        have h2 : Ref.validate F = 0 := (Ref.val_iff F).2 hvF
        rw [← h2]; exact ival_nice v1 F w1 h1 hnF
      clear hE hF hE0 hv hvF hpF hnF hEF hn hnf hf0 hlg hB0 hFS
      go_enter Tryz.func3, Tryz.ntmps3
      go_upto_region 9 with (first
        | (go_at_call 5; refine (HL.out _ HB0.out).mono ?_; rintro e w1 ⟨rfl, g1⟩; have HG1 := Lib.hid g1; clear g1 k0 k1 k2 k3; obtain ⟨k0, k1, k2, k3⟩ := KP.out _ HG1.out)
        | (go_at_call 7; refine (HP.out _ (HB0.out.trans HG1.out)).mono ?_; rintro e w2 ⟨a1, a1c, a2, a2c, a3, a3c, rfl, HFA, g2⟩; have HG2 := Lib.hid (HG1.out.trans g2); obtain ⟨V2, hV2⟩ : ∃ V, w2.alloc (.cells #[.slice a1 F.params.length a1c, .int .i64 F.ret, .slice a2 F.slots.length a2c, .slice a3 F.blocks.length a3c] 25) = V := ⟨_, rfl⟩; have HX2 : Hid (V2.heap[w2.heap.size]? = some (.cells #[.slice a1 F.params.length a1c, .int .i64 F.ret, .slice a2 F.slots.length a2c, .slice a3 F.blocks.length a3c] 25 (0, 0)) ∧ Gr w2 V2) := (by rw [← hV2]; exact Lib.hid ⟨heap_alloc_new _ _, (Gr.refl _).alloc _⟩); clear g2 k0 k1 k2 k3; obtain ⟨k0, k1, k2, k3⟩ := KP.out _ (HG2.out.trans HX2.out.2))
        | (go_at_call 8; refine (HQ.out _ (HB0.out.trans (HG2.out.trans HX2.out.2))).mono ?_; rintro e w3 ⟨b1, b1c, b2, b2c, b3, b3c, rfl, HFB, g3⟩; have HG3 : Hid (Gr V2 w3) := g3; obtain ⟨V3, hV3⟩ : ∃ V, w3.alloc (.cells #[.slice b1 F.params.length b1c, .int .i64 F.ret, .slice b2 F.slots.length b2c, .slice b3 F.blocks.length b3c] 25) = V := ⟨_, rfl⟩; have HX3 : Hid (V3.heap[w3.heap.size]? = some (.cells #[.slice b1 F.params.length b1c, .int .i64 F.ret, .slice b2 F.slots.length b2c, .slice b3 F.blocks.length b3c] 25 (0, 0)) ∧ Gr w3 V3) := (by rw [← hV3]; exact Lib.hid ⟨heap_alloc_new _ _, (Gr.refl _).alloc _⟩); clear g3 k0 k1 k2 k3; obtain ⟨k0, k1, k2, k3⟩ := box4 HX2.out.1 (HG3.out.trans HX3.out.2); obtain ⟨m0, m1, m2, m3⟩ := box4 HX3.out.1 (Gr.refl _))
        | (go_at_call 9; refine (HSA.out _ _ _ (HFA.out.gr (HX2.out.2.trans (HG3.out.trans HX3.out.2))) (HFB.out.gr HX3.out.2)).mono ?_; rintro e w4 ⟨rfl, g4⟩; have HG4 : Hid (Gr V2 w4) := HG3.out.trans (HX3.out.2.trans g4); clear g4 k0 k1 k2 k3 m0 m1 m2 m3; obtain ⟨k0, k1, k2, k3⟩ := box4 HX2.out.1 HG4.out))
      clear hV2 hV3
      go_wp2_with (first
        | (go_at_call 7; refine (HP2.out _ _ (HFA.out.gr (HX2.out.2.trans HG4.out))).mono ?_; rintro e w5 ⟨d1, d1c, d2, d2c, d3, d3c, rfl, HFD, g5⟩; have HG5 : Hid (Gr V2 w5) := HG4.out.trans g5; obtain ⟨V5, hV5⟩ : ∃ V, w5.alloc (.cells #[.slice d1 F.params.length d1c, .int .i64 F.ret, .slice d2 F.slots.length d2c, .slice d3 F.blocks.length d3c] 25) = V := ⟨_, rfl⟩; have HX5 : Hid (V5.heap[w5.heap.size]? = some (.cells #[.slice d1 F.params.length d1c, .int .i64 F.ret, .slice d2 F.slots.length d2c, .slice d3 F.blocks.length d3c] 25 (0, 0)) ∧ Gr w5 V5) := (by rw [← hV5]; exact Lib.hid ⟨heap_alloc_new _ _, (Gr.refl _).alloc _⟩); clear g5 k0 k1 k2 k3; obtain ⟨k0, k1, k2, k3⟩ := box4 HX2.out.1 (HG5.out.trans HX5.out.2))
        | (go_at_call 10; refine (HV.out _ _ (HFA.out.gr (HX2.out.2.trans (HG5.out.trans HX5.out.2)))).mono ?_; rintro e w6 ⟨rfl, g6⟩; have HG6 : Hid (Gr V5 w6) := g6; clear g6 k0 k1 k2 k3; obtain ⟨k0, k1, k2, k3⟩ := box4 HX2.out.1 (HG5.out.trans (HX5.out.2.trans HG6.out)); obtain ⟨m0, m1, m2, m3⟩ := box4 HX5.out.1 HG6.out)
        | (go_at_call 9; refine (HSA.out _ _ _ (HFD.out.gr (HX5.out.2.trans HG6.out)) (HFA.out.gr (HX2.out.2.trans (HG5.out.trans (HX5.out.2.trans HG6.out))))).mono ?_; rintro e w7 ⟨rfl, g7⟩; have HG7 := Lib.hid g7; clear g7)
        | (go_at_call 6; refine (HKN.out _).mono ?_; rintro e w8 ⟨rfl, g8⟩; have HG8 := Lib.hid g8; clear g8))
      go_ret
      exact ⟨rfl, HB0.out.trans (HG2.out.trans (HX2.out.2.trans (HG5.out.trans (HX5.out.2.trans (HG6.out.trans (HG7.out.trans HG8.out))))))⟩
    · have hE1 : (E != 0) = true := by simpa using hz
      have hE2 : (E == 0) = false := by simpa using hz
      clear hE hF hn hnf hf0 hlg hB0 hFS hz
      go_enter Tryz.func3, Tryz.ntmps3
      go_wp2_with (first
        | (go_at_call 5; refine (HL.out _ HB0.out).mono ?_; rintro e w1 ⟨rfl, g1⟩; have HG1 := Lib.hid g1; clear g1 k0 k1 k2 k3; obtain ⟨k0, k1, k2, k3⟩ := KP.out _ HG1.out)
        | (go_at_call 7; refine (HP.out _ (HB0.out.trans HG1.out)).mono ?_; rintro e w2 ⟨a1, a1c, a2, a2c, a3, a3c, rfl, HFA, g2⟩; have HG2 := Lib.hid (HG1.out.trans g2); obtain ⟨V2, hV2⟩ : ∃ V, w2.alloc (.cells #[.slice a1 F.params.length a1c, .int .i64 F.ret, .slice a2 F.slots.length a2c, .slice a3 F.blocks.length a3c] 25) = V := ⟨_, rfl⟩; have HX2 : Hid (V2.heap[w2.heap.size]? = some (.cells #[.slice a1 F.params.length a1c, .int .i64 F.ret, .slice a2 F.slots.length a2c, .slice a3 F.blocks.length a3c] 25 (0, 0)) ∧ Gr w2 V2) := (by rw [← hV2]; exact Lib.hid ⟨heap_alloc_new _ _, (Gr.refl _).alloc _⟩); clear g2 k0 k1 k2 k3; obtain ⟨k0, k1, k2, k3⟩ := KP.out _ (HG2.out.trans HX2.out.2))
        | (go_at_call 8; refine (HQ.out _ (HB0.out.trans (HG2.out.trans HX2.out.2))).mono ?_; rintro e w3 ⟨b1, b1c, b2, b2c, b3, b3c, rfl, HFB, g3⟩; have HG3 : Hid (Gr V2 w3) := g3; obtain ⟨V3, hV3⟩ : ∃ V, w3.alloc (.cells #[.slice b1 F.params.length b1c, .int .i64 F.ret, .slice b2 F.slots.length b2c, .slice b3 F.blocks.length b3c] 25) = V := ⟨_, rfl⟩; have HX3 : Hid (V3.heap[w3.heap.size]? = some (.cells #[.slice b1 F.params.length b1c, .int .i64 F.ret, .slice b2 F.slots.length b2c, .slice b3 F.blocks.length b3c] 25 (0, 0)) ∧ Gr w3 V3) := (by rw [← hV3]; exact Lib.hid ⟨heap_alloc_new _ _, (Gr.refl _).alloc _⟩); clear g3 k0 k1 k2 k3; obtain ⟨k0, k1, k2, k3⟩ := box4 HX2.out.1 (HG3.out.trans HX3.out.2); obtain ⟨m0, m1, m2, m3⟩ := box4 HX3.out.1 (Gr.refl _))
        | (go_at_call 9; refine (HSA.out _ _ _ (HFA.out.gr (HX2.out.2.trans (HG3.out.trans HX3.out.2))) (HFB.out.gr HX3.out.2)).mono ?_; rintro e w4 ⟨rfl, g4⟩; have HG4 : Hid (Gr V2 w4) := HG3.out.trans (HX3.out.2.trans g4); clear g4 k0 k1 k2 k3 m0 m1 m2 m3)
        | (go_at_call 6; refine (HKN.out _).mono ?_; rintro e w8 ⟨rfl, g8⟩; have HG8 := Lib.hid g8; clear g8))
      go_ret
      exact ⟨rfl, HB0.out.trans (HG2.out.trans (HX2.out.2.trans (HG4.out.trans HG8.out)))⟩
end Go.Proofs.YtiadpjhlomhjeaaGreat
