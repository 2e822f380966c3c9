/- The ends of functions that hold a range over 'all'; graph_gval. -/
import Derived.Test.YtiadpjhlomhjeaaGreatIrZ
import Derived.Test.YtiadpjhlomhjeaaGreatRefV
namespace Go.Proofs.YtiadpjhlomhjeaaGreat
open Go.RowKit Go.Shelf

theorem results_bool (fn : Func) (tmps : Array Value) (t : Nat) (w : World) (Br : Nat) (b : Bool) (h : fn.results = #[.cell t 4]) (ht : tmps[t]?.getD undef = .pointer (some ⟨Br, 0, none⟩)) (hc : w.cell? ⟨Br, 0, none⟩ = some (.bool b)) :
    (results fn tmps).run Tryz.prog w = .ok (.bool b) w := by simp [results, h, ht, go_sem, hc]
theorem leaves0 {fn : Func} {R : Ending → World → Prop} {tmps : Array Value} {w : World} {v : Value} (h : (results fn tmps).run Tryz.prog w = .ok v w) (hR : R (.returned v) w) : LeavesInM Fence.wide 5 Tryz.prog fn tmps R [] .returning w := ⟨v, h, hR⟩
theorem leavesD {fn : Func} {R : Ending → World → Prop} {tmps : Array Value} {w : World} {D : Nat} {ds : List Deferred} (hK : w.heap[D]? = some (.deferred (some []))) (h : LeavesInM Fence.wide 5 Tryz.prog fn tmps R ds .returning (w.putObj D (.deferred none))) :
    LeavesInM Fence.wide 5 Tryz.prog fn tmps R ({ target := .collected D, args := #[] } :: ds) .returning w := ⟨by simp, .inl ⟨_, _, rfl, run_takeDeferred hK, h⟩⟩
theorem retM {fn : Func} {R : Ending → World → Prop} {a : Act} {w : World} {v : Value} (hd : a.defers = []) (h : (results fn a.tmps).run Tryz.prog w = .ok v w) (hR : R (.returned v) w) : bodyPostM Fence.wide 5 Tryz.prog fn R .ret a w := by
  show LeavesInM Fence.wide 5 Tryz.prog fn a.tmps R a.defers .returning w
  rw [hd]
  exact leaves0 h hR
theorem retD {fn : Func} {R : Ending → World → Prop} {a : Act} {w : World} {v : Value} {D : Nat} (hd : a.defers = [{ target := .collected D, args := #[] }]) (hK : w.heap[D]? = some (.deferred (some []))) (h : (results fn a.tmps).run Tryz.prog (w.putObj D (.deferred none)) = .ok v (w.putObj D (.deferred none)))
    (hR : R (.returned v) (w.putObj D (.deferred none))) : bodyPostM Fence.wide 5 Tryz.prog fn R .ret a w := by
  show LeavesInM Fence.wide 5 Tryz.prog fn a.tmps R a.defers .returning w
  rw [hd]
  exact leavesD hK (leaves0 h hR)
theorem Gr.keeps {a b : World} (h : Gr a b) : KeepsOthers a b := ⟨h.size, fun k _ hk _ => (h.heap k (Array.getElem?_eq_some_iff.1 hk).1).trans hk⟩
/-- Behind the taking of the deferred calls: a bool in its box. -/
theorem retB {fn : Func} {R : Ending → World → Prop} {a : Act} {w w0 : World} {D Br t : Nat} {b : Bool} (hd : a.defers = [{ target := .collected D, args := #[] }]) (hK : w.heap[D]? = some (.deferred (some []))) (hf : fn.results = #[.cell t 4]) (ht : a.tmps[t]?.getD undef = .pointer (some ⟨Br, 0, none⟩))
    (hb : w.heap[Br]? = some (.cells #[.bool b] 4 (0, 0))) (hw : Below w0.heap.size w0 w) (hD : w0.heap.size ≤ D) (hR : ∀ w', Gr w0 w' → R (.returned (.bool b)) w') : bodyPostM Fence.wide 5 Tryz.prog fn R .ret a w := by
  have hne : Br ≠ D := fun e => by rw [e, hK] at hb; cases hb
  have hb9 : (w.putObj D (.deferred none)).heap[Br]? = some (.cells #[.bool b] 4 (0, 0)) := (World.putObj_heap_other hne).trans hb
  refine retD hd hK (results_bool fn a.tmps t _ Br b hf ht (cell_of_one hb9)) (hR _ ?_)
  exact Below.trans hw (belowK_b (w := w0) (Nat.le_refl _) w D _ _ hD hK rfl rfl)

theorem last_to {f : Fn} {l : List Ins} (hl : Ref.laid l = true) (hA : ∀ x ∈ l, Ref.argument f x = true) : ((l.getLast?.map (·.to)).getD []).length ≤ 2 := by
  have hlast : ∀ (l : List Ins) (p : Bool), l ≠ [] → Ref.laidFrom l p = true → ∃ x, l.getLast? = some x ∧ Ref.isLast x.op = true := by
    intro l
    induction l with
    | nil => intro p h; exact absurd rfl h
    | cons x r ih =>
      intro p _ h
      rw [Ref.laidFrom] at h
      simp only [Bool.and_eq_true] at h
      cases r with
      | nil => exact ⟨x, rfl, by simpa using h.1.1⟩
      | cons y r' =>
        obtain ⟨z, h1, h2⟩ := ih _ (by simp) h.2
        exact ⟨z, by rw [List.getLast?_cons_cons]; exact h1, h2⟩
  have hne := laid_ne hl
  unfold Ref.laid at hl
  simp only [Bool.and_eq_true] at hl
  obtain ⟨x, h1, h2⟩ := hlast l _ hne hl.2
  rw [h1]
  have hx := hA x (List.mem_of_getLast? h1)
  unfold Ref.argument Ref.counts at hx
  simp only [Bool.and_eq_true] at hx
  obtain ⟨⟨⟨-, hc⟩, -⟩, -⟩ := hx
  simp only [Option.map_some, Option.getD_some]
  have hop : x.op = 29 ∨ x.op = 30 ∨ x.op = 31 ∨ x.op = 32 := by unfold Ref.isLast at h2; simpa [or_assoc] using h2
  have hs : (Ref.shape f x).2.1 = 1 ∨ (Ref.shape f x).2.1 = 2 ∨ (Ref.shape f x).2.1 = 0 := by
    rcases hop with h | h | h | h
    all_goals (unfold Ref.shape; rw [h]; simp)
  simp only [Bool.not_eq_true', Bool.or_eq_false_iff, Bool.and_eq_false_imp, decide_eq_true_eq, decide_eq_false_iff_not] at hc
  have := hc.2
  omega
/-- The graph of blocks that are laid is a right one. -/
theorem graph_gval {f : Fn} (hA : ∀ l ∈ f.blocks, ∀ x ∈ l, Ref.argument f x = true) (hL : f.blocks.all Ref.laid = true) (h1 : 1 ≤ f.blocks.length) (h2 : f.blocks.length ≤ 10) : Ir.gval (Ref.graph f) = 0 := by
  have hgl : (Ref.graph f).length = f.blocks.length := by simp [Ref.graph]
  unfold Ir.gval
  rw [if_neg (by omega), if_neg, if_neg]
  · intro h
    obtain ⟨l, hl, h3⟩ := List.any_eq_true.1 h
    obtain ⟨t, ht, h4⟩ := List.any_eq_true.1 h3
    have := graph_ok f hA l hl t ht
    unfold Ir.outside at h4
    simp at h4
    omega
  · intro h
    obtain ⟨l, hl, h3⟩ := List.any_eq_true.1 h
    obtain ⟨b, hb, rfl⟩ := List.mem_map.1 hl
    have := last_to (List.all_eq_true.1 hL b hb) (hA b hb)
    simp at h3
    omega
end Go.Proofs.YtiadpjhlomhjeaaGreat
