import Derived.Test.YtiadpjhlomhjeaaIrF
namespace Go.Proofs.Ytiadpjhlomhjeaa
open Go.RowKit

namespace Ir
theorem vis_from {g : List (List Int)} {but : Int} {s s' : List Bool} (h : Vis g but s s' 0) (hs : ∀ i : Nat, s[i]? ≠ some true) (hok : ∀ l ∈ g, ∀ t ∈ l, 0 ≤ t ∧ t < (g.length : Int)) : ∀ i : Nat, s'[i]? = some true ↔ From g but 0 i := by
  obtain ⟨-, h2, h3, h4⟩ := h
  have key : ∀ v i, From g but v i → s'[v]? = some true → s'[i]? = some true := by
    intro v i hf
    induction hf with
    | here v h => exact fun h => h
    | step v i t h ht hr ih =>
      intro hv
      apply ih
      rcases h4 v hv with h5 | h5
      · exact absurd h5 (hs v)
      · rcases h5 t ht with h6 | h6
        · exfalso
          have h7 : (t.toNat : Int) ≠ but := by cases hr with | here _ q => exact q | step _ _ _ q _ _ => exact q
          have h8 : 0 ≤ t := by
            cases hl : g[v]? with
            | none => simp [List.getD, hl] at ht
            | some l =>
              have hm : t ∈ l := by simpa [List.getD, hl] using ht
              exact (hok l (List.mem_of_getElem? hl) t hm).1
          omega
        · exact h6
  intro i
  constructor
  · intro hi
    rcases h3 i hi with h | h
    · exact absurd h (hs i)
    · exact h
  · intro hf
    refine key 0 i hf ?_
    rcases h2 with h | h
    · exfalso
      cases hf with
      | here _ q => exact q h
      | step _ _ _ q _ _ => exact q h
    · exact h
/-- The set of the nodes that are reached, not through but. -/
def IsReach (g : List (List Int)) (but : Int) (s : List Bool) : Prop := s.length = 10 ∧ ∀ i : Nat, s[i]? = some true ↔ From g but 0 i
end Ir
theorem gval_ok {g : List (List Int)} (h : Ir.gval g = 0) : ∀ l ∈ g, ∀ t ∈ l, 0 ≤ t ∧ t < (g.length : Int) := by
  intro l hl t ht
  unfold Ir.gval at h
  split at h
  · cases h
  · split at h
    · cases h
    · split at h
      · cases h
      · rename_i h3
        have : Ir.outside g.length t = false := by
          cases q : Ir.outside g.length t with
          | false => rfl
          | true => exact absurd (List.any_eq_true.2 ⟨l, hl, List.any_eq_true.2 ⟨t, ht, q⟩⟩) h3
        unfold Ir.outside at this
        simp at this
        omega

theorem store_new (V : World) (x y : Value) (t : TypeId) (n : Nat) (hn : n = V.heap.size) (hx : x.oneCell' = true) : Sem.run Try.prog (store ⟨n, 0, none⟩ x) (V.alloc (.cells #[y] t)) = .ok () (V.alloc (.cells #[x] t)) := by
  subst hn
  have h := heap_alloc_new V (.cells #[y] t)
  have hc := cell_of_one h
  have hf := free_of_one h
  rw [run_store _ _ _ _ _ hx, hc]
  simp only [hf]
  rw [World.setCell_alloc_at _ _ _ _ _ rfl]
  rfl

set_option maxRecDepth 10000 in
set_option maxHeartbeats 4000000 in
theorem reach_any (vg : Value) (g : List (List Int)) (but : Int) (w : World) (hg : TabAt w.heap.size w vg g) (hv : Ir.gval g = 0) :
    Calls Try.prog 92 #[vg, .int .i64 but] w fun e w' => ∃ s, e = .returned (nv s) ∧ Ir.IsReach g but s ∧ Gr w w' := by
  obtain ⟨hn1, hn⟩ := gval_len hv
  have hok := gval_ok hv
  have hg0 := hg
  obtain ⟨A, c, rfl, -, -, -⟩ := hg
  have prep : ∃ w0 W, ((((w.alloc (.cells #[.slice A g.length c] 30)).alloc (.cells #[.int .i64 but] 3)).alloc (.cells #[Value.bool false, Value.bool false, Value.bool false, Value.bool false, Value.bool false, Value.bool false, Value.bool false, Value.bool false, Value.bool false, Value.bool false] 103)).alloc (.cells #[Value.bool false, Value.bool false, Value.bool false, Value.bool false, Value.bool false, Value.bool false, Value.bool false, Value.bool false, Value.bool false, Value.bool false] 103)).alloc (.cells #[visitV (w.heap.size + 1) (w.heap.size + 3) w.heap.size] 114) = W ∧
      Gr w w0 ∧ w0.heap.size = w.heap.size + 3 ∧ w0.cell? ⟨w.heap.size, 0, none⟩ = some (.slice A g.length c) ∧ w0.cell? ⟨w.heap.size + 1, 0, none⟩ = some (.int .i64 but) ∧ ARow w.heap.size (w.heap.size + 2) w0 (List.replicate 10 false) ∧ Gr w0 W ∧
      ARow w0.heap.size (w.heap.size + 3) W (List.replicate 10 false) ∧ W.cell? ⟨w.heap.size + 3 + 1, 0, none⟩ = some (visitV (w.heap.size + 1) (w.heap.size + 3) w.heap.size) := by
    obtain ⟨w0, hw0⟩ : ∃ w0, ((w.alloc (.cells #[.slice A g.length c] 30)).alloc (.cells #[.int .i64 but] 3)).alloc (.cells #[Value.bool false, Value.bool false, Value.bool false, Value.bool false, Value.bool false, Value.bool false, Value.bool false, Value.bool false, Value.bool false, Value.bool false] 103) = w0 := ⟨_, rfl⟩
    have hws : w0.heap.size = w.heap.size + 3 := by rw [← hw0]; simp
    refine ⟨w0, _, rfl, ?_, hws, ?_, ?_, ?_, ?_, ?_, ?_⟩
    · rw [← hw0]; exact (((Gr.refl w).alloc _).alloc _).alloc _
    · rw [← hw0]; exact (((Gr.refl _).alloc _).cell w.heap.size 0 (by simp; omega)).trans ((((Gr.refl _).alloc _).cell w.heap.size 0 (by simp)).trans (cell_of_row _ _ _ _ _ _ (heap_alloc_new w _)))
    · rw [← hw0]
      have e : (w.alloc (.cells #[.slice A g.length c] 30)).heap.size = w.heap.size + 1 := by simp
      have := cell_of_row _ _ 0 _ _ _ (heap_alloc_new (w.alloc (.cells #[.slice A g.length c] 30)) (.cells #[.int .i64 but] 3))
      rw [e] at this
      exact (((Gr.refl _).alloc _).cell (w.heap.size + 1) 0 (by simp)).trans this
    · rw [← hw0]
      refine ARow.fresh ?_ (by omega)
      have e : ((w.alloc (.cells #[.slice A g.length c] 30)).alloc (.cells #[.int .i64 but] 3)).heap.size = w.heap.size + 2 := by simp
      have := heap_alloc_new ((w.alloc (.cells #[.slice A g.length c] 30)).alloc (.cells #[.int .i64 but] 3)) (.cells #[Value.bool false, Value.bool false, Value.bool false, Value.bool false, Value.bool false, Value.bool false, Value.bool false, Value.bool false, Value.bool false, Value.bool false] 103)
      rw [e] at this
      exact this
    · rw [hw0]; exact ((Gr.refl w0).alloc _).alloc _
    · rw [hw0, ← hws]; exact ARow.fresh (heap_alloc2_old w0 _ _) (Nat.le_refl _)
    · rw [hw0, ← hws]; exact cell_of_row _ _ _ _ _ _ (heap_alloc2_new w0 _ _)
  obtain ⟨w0, W, hW, hB0, hws, hgb, hbb, hr0, hgW, hrW, hvW⟩ := prep
  have HC : Hid (Calls Try.prog 104 #[.int .i64 0, .pointer (some ⟨w.heap.size + 1, 0, none⟩), .pointer (some ⟨w.heap.size + 3, 0, none⟩), .pointer (some ⟨w.heap.size, 0, none⟩), .pointer (some ⟨w.heap.size + 3 + 1, 0, none⟩)] W fun e w' =>
        e = .returned (.tuple #[]) ∧ ∃ s', Ir.Vis g but (List.replicate 10 false) s' 0 ∧ ARow w0.heap.size (w.heap.size + 3) w' s' ∧ Gr w0 w') := by
    have := visit_any g but (.slice A g.length c) w0 (w.heap.size + 1) w.heap.size (hg0.gr hB0) hn hok (by omega) (by omega) hbb hgb 10 (List.replicate 10 false) 0 W (by simp [Ir.cnt]) (by omega) hgW (by rw [hws]; rw [hws] at hrW; exact hrW) (by rw [hws]; exact hvW)
    rw [hws] at this ⊢
    exact this.mono fun _ _ ⟨h1, s', h2, h3, h4, _⟩ => ⟨h1, s', h2, h3, h4⟩
  have HF : Hid (∀ s', Ir.Vis g but (List.replicate 10 false) s' 0 → s'.length = 10 → Ir.IsReach g but s') := fun s' h hl => ⟨hl, Ir.vis_from h (fun i => by rw [List.getElem?_replicate]; split <;> simp) hok⟩
  unfold visitV at hW
  have hst := store_new ((((w.alloc (.cells #[.slice A g.length c] 30)).alloc (.cells #[.int .i64 but] 3)).alloc (.cells #[Value.bool false, Value.bool false, Value.bool false, Value.bool false, Value.bool false, Value.bool false, Value.bool false, Value.bool false, Value.bool false, Value.bool false] 103)).alloc (.cells #[Value.bool false, Value.bool false, Value.bool false, Value.bool false, Value.bool false, Value.bool false, Value.bool false, Value.bool false, Value.bool false, Value.bool false] 103)) (visitV (w.heap.size + 1) (w.heap.size + 1 + 1 + 1) w.heap.size) .nilFunc 114 (w.heap.size + 1 + 1 + 1 + 1) (by simp) rfl
  rw [show w.heap.size + 3 = w.heap.size + 1 + 1 + 1 by omega] at hW HC hvW
  unfold visitV at hst hvW
  rw [hW] at hst
  have HR0 := Lib.hid hr0
  have HWS := Lib.hid hws
  clear hg0 hv hok hgb hbb hr0 hrW hgW hws
  go_enter Try.func92, Try.ntmps92
  go_wp2_with (go_at_call 104; refine HC.out.mono ?_; rintro e w1 ⟨rfl, s, hvis, hrow, hgr⟩; have HI := Lib.hid (HF.out s hvis hrow.len); clear hvis; have hr1 : ARow w.heap.size (w.heap.size + 1 + 1) w1 (List.replicate 10 false) := HR0.out.other (hgr.heap _ (by have := HWS.out; omega)); obtain ⟨a0, a1, a2, a3, a4, a5, a6, a7, a8, a9, rfl⟩ := ten s hrow.len; have c0 := hrow.cell 0 _ rfl; have c1 := hrow.cell 1 _ rfl; have c2 := hrow.cell 2 _ rfl; have c3 := hrow.cell 3 _ rfl; have c4 := hrow.cell 4 _ rfl; have c5 := hrow.cell 5 _ rfl; have c6 := hrow.cell 6 _ rfl; have c7 := hrow.cell 7 _ rfl; have c8 := hrow.cell 8 _ rfl; have c9 := hrow.cell 9 _ rfl; have d0 := hr1.cell 0 _ rfl; have f0 := hr1.frozen 0; have d1 := hr1.cell 1 _ rfl; have f1 := hr1.frozen 1; have d2 := hr1.cell 2 _ rfl; have f2 := hr1.frozen 2; have d3 := hr1.cell 3 _ rfl; have f3 := hr1.frozen 3; have d4 := hr1.cell 4 _ rfl; have f4 := hr1.frozen 4; have d5 := hr1.cell 5 _ rfl; have f5 := hr1.frozen 5; have d6 := hr1.cell 6 _ rfl; have f6 := hr1.frozen 6; have d7 := hr1.cell 7 _ rfl; have f7 := hr1.frozen 7; have d8 := hr1.cell 8 _ rfl; have f8 := hr1.frozen 8; have d9 := hr1.cell 9 _ rfl; have f9 := hr1.frozen 9; clear hvW hrow hr1)
  refine bodyPost_ret (by simp [results, Try.results92, go_sem, *]; rfl) rfl ?_
  refine ⟨_, rfl, HI.out, ?_⟩
  iterate 10 refine Gr.setCell ?_ (by show w.heap.size ≤ w.heap.size + 1 + 1; omega) _
  exact hB0.trans hgr
end Go.Proofs.Ytiadpjhlomhjeaa
