import Derived.Test.YtiadpjhlomhjeaaIrD
namespace Go.Proofs.Ytiadpjhlomhjeaa
open Go.RowKit

/-- A set of nodes in a block of the call's own. -/
def ARow (B hb : Nat) (w : World) (bs : List Bool) : Prop := w.ownsRow B 103 1 (.slice (some ⟨hb, 0, none⟩) 10 10) 10 (bs.map Value.bool)
section
variable {B hb : Nat} {w w' : World} {bs : List Bool}
theorem ARow.len (h : ARow B hb w bs) : bs.length = 10 := by have := h.1; simpa using this
theorem ARow.cell (h : ARow B hb w bs) (j : Nat) (b : Bool) (hj : bs[j]? = some b) : w.cell? ⟨hb, j, none⟩ = some (.bool b) := by
  have hl := h.len
  have hlt := (List.getElem?_eq_some_iff.1 hj).1
  rw [World.ownsRow.cellAt h j (by omega), List.getElem?_map, hj]; rfl
theorem ARow.frozen (h : ARow B hb w bs) (j : Nat) : w.frozen? ⟨hb, j, none⟩ = false := World.ownsRow.frozenAt h j
theorem ARow.set_ (h : ARow B hb w bs) (j : Nat) (b : Bool) : ARow B hb (w.setCell ⟨hb, j, none⟩ (.bool b)) (bs.set j b) := by
  have := (World.ownsRow.stored h j (.bool b)).1
  unfold ARow; rw [List.map_set]; exact this
theorem ARow.fresh (h : w.heap[hb]? = some (.cells #[.bool false, .bool false, .bool false, .bool false, .bool false, .bool false, .bool false, .bool false, .bool false, .bool false] 103 (0, 0))) (hB : B ≤ hb) : ARow B hb w (List.replicate 10 false) :=
  ⟨rfl, .inr ⟨hb, 10, _, rfl, hB, h, Nat.le_refl _, by simp [maxLen], rfl, rfl⟩⟩
theorem ARow.heap (h : ARow B hb w bs) : w.heap[hb]? = some (.cells (bs.map Value.bool).toArray 103 (0, 0)) := by
  obtain ⟨hl, h2⟩ := h
  rcases h2 with ⟨h, -⟩ | ⟨g, cap, cur, e, -, hg, -, -, hs, ht⟩
  · cases h
  · cases e
    rw [hg]
    have : cur.toList = bs.map Value.bool := by rw [← ht]; exact (List.take_of_length_le (by simp [hs])).symm
    rw [← this]
theorem ARow.of (h : w.heap[hb]? = some (.cells (bs.map Value.bool).toArray 103 (0, 0))) (hl : bs.length = 10) (hB : B ≤ hb) : ARow B hb w bs :=
  ⟨by simpa using hl, .inr ⟨hb, 10, _, rfl, hB, h, Nat.le_refl _, by simp [maxLen], by simpa using hl, by simp [List.take_of_length_le, hl]⟩⟩
theorem ARow.lt (h : ARow B hb w bs) : hb < w.heap.size := by
  have := h.heap
  exact (Array.getElem?_eq_some_iff.1 this).1
/-- What turns in another block. -/
theorem ARow.other (h : ARow B hb w bs) (hh : w'.heap[hb]? = w.heap[hb]?) : ARow B hb w' bs := by
  have h1 := h
  obtain ⟨hl, h2⟩ := h
  refine ⟨hl, ?_⟩
  rcases h2 with ⟨h, e⟩ | ⟨g, cap, cur, e, hB, hg, r⟩
  · exact .inl ⟨h, e⟩
  · cases e
    exact .inr ⟨hb, 10, cur, rfl, hB, hh.trans hg, r⟩
end

theorem bits_len (g : List (List Int)) (z : Int) (n : Nat) : (Ir.beforeBits g z n).length = 10 := by simp [Ir.beforeBits]
theorem bits_succ (g : List (List Int)) (z : Int) (n : Nat) (l : List Int) (h : g[n]? = some l) (hn : n < 10) : (Ir.beforeBits g z n).set n (Ref.has l z) = Ir.beforeBits g z (n + 1) := by
  apply List.ext_getElem?
  intro i
  unfold Ir.beforeBits
  rw [List.getElem?_set]
  by_cases e : n = i
  · subst e
    simp [hn, List.getD, h]
  · by_cases hi : i < 10
    · simp [e, hi]
      by_cases h2 : i < n
      · simp [h2, show i < n + 1 by omega]
      · simp [h2, show ¬ i < n + 1 by omega]
    · simp [e, hi]

set_option maxRecDepth 10000 in
set_option maxHeartbeats 4000000 in
theorem ibefore_any (v : Value) (g : List (List Int)) (z : Int) (w : World) (hg : TabAt w.heap.size w v g) (hn : g.length ≤ 10) :
    Calls Try.prog 89 #[v, .int .i64 z] w fun e w' => e = .returned (nv (Ir.beforeBits g z g.length)) ∧ Gr w w' := by
  obtain ⟨A, c, rfl, h1, h2, h3⟩ := hg
  have hr0 : ∀ W : World, W = (w.alloc (.cells #[.bool false, .bool false, .bool false, .bool false, .bool false, .bool false, .bool false, .bool false, .bool false, .bool false] 103)).alloc (.cells #[.bool false, .bool false, .bool false, .bool false, .bool false, .bool false, .bool false, .bool false, .bool false, .bool false] 103) → ARow w.heap.size w.heap.size W (List.replicate 10 false) ∧ ARow w.heap.size (w.heap.size + 1) W (List.replicate 10 false) ∧ Gr w W := by
    intro W hW
    subst hW
    exact ⟨ARow.fresh (heap_alloc2_old w _ _) (Nat.le_refl _), ARow.fresh (heap_alloc2_new w _ _) (by omega), ((Gr.refl w).alloc _).alloc _⟩
  obtain ⟨r1, r2, r3⟩ := hr0 _ rfl
  clear hr0
  have hz : Ir.beforeBits g z 0 = List.replicate 10 false := by simp [Ir.beforeBits]; rfl
  rw [← hz] at r2
  clear hz
  go_enter Try.func89, Try.ntmps89
  go_wp2
  go_loopw [6, 7, 10] (fun _ _ i wr => ∃ k : Nat, k ≤ g.length ∧ i = .int .i64 k ∧ ARow w.heap.size w.heap.size wr (List.replicate 10 false) ∧ ARow w.heap.size (w.heap.size + 1) wr (Ir.beforeBits g z k) ∧ Gr w wr) (fun _ _ i _ => g.length - (intOf i).toNat)
  case atStart => exact ⟨0, Nat.zero_le _, rfl, r1, r2, r3⟩
  case round =>
    obtain ⟨k, hk, rfl, hr1, hr2, hgr⟩ := hrel
    obtain ⟨wo, rfl⟩ : ∃ wo : World, wo = wr := ⟨_, rfl⟩
    clear r1 r2 r3
    by_cases hlt : k < g.length
    · obtain ⟨b, o, rfl, hb, hc⟩ := h3 (by omega)
      obtain ⟨l, hl⟩ : ∃ l, g[k]? = some l := ⟨g[k], by simp [hlt]⟩
      obtain ⟨u, hu, hul⟩ := hc k l hl
      have hu' := (hgr.cell _ _ hb).trans hu
      have HC := Lib.hid (Contains_any u l z wo (hul.gr hgr))
      have HB : Hid ((Ir.beforeBits g z k).set k (Ref.has l z) = Ir.beforeBits g z (k + 1)) := bits_succ g z k l hl (by omega)
      obtain ⟨y, hy⟩ : ∃ y, (Ir.beforeBits g z k)[k]? = some y := ⟨(Ir.beforeBits g z k)[k]'(by rw [bits_len]; omega), by simp [show k < (Ir.beforeBits g z k).length by rw [bits_len]; omega]⟩
      have hcell := hr2.cell k y hy
      have hfz := hr2.frozen k
      have hk10 : (k : Int) < 10 := by omega
      clear hl hc hu hul h3 hy
      go_wp2_with (go_at_call 53; refine HC.out.mono ?_; rintro e w' ⟨rfl, rfl⟩)
      go_roundw
      case rel => exact ⟨k + 1, by omega, by go_num, hr1.other (heap_setCell_other _ _ _ _ (by show w.heap.size ≠ w.heap.size + 1; omega)), by rw [← HB.out]; exact hr2.set_ k _, hgr.setCell (by simp) _⟩
      case measure => simp [intOf]; omega
    · obtain rfl : k = g.length := by omega
      have HL := Lib.hid hr2.len
      obtain ⟨bs, hbs⟩ : ∃ bs, Ir.beforeBits g z g.length = bs := ⟨_, rfl⟩
      rw [hbs] at hr2 HL
      have HBS := Lib.hid hbs
      clear hbs
      obtain ⟨a0, a1, a2, a3, a4, a5, a6, a7, a8, a9, rfl⟩ := ten bs HL.out
      have c0 := hr2.cell 0 _ rfl
      have c1 := hr2.cell 1 _ rfl
      have c2 := hr2.cell 2 _ rfl
      have c3 := hr2.cell 3 _ rfl
      have c4 := hr2.cell 4 _ rfl
      have c5 := hr2.cell 5 _ rfl
      have c6 := hr2.cell 6 _ rfl
      have c7 := hr2.cell 7 _ rfl
      have c8 := hr2.cell 8 _ rfl
      have c9 := hr2.cell 9 _ rfl
      have d0 := hr1.cell 0 _ rfl
      have f0 := hr1.frozen 0
      have d1 := hr1.cell 1 _ rfl
      have f1 := hr1.frozen 1
      have d2 := hr1.cell 2 _ rfl
      have f2 := hr1.frozen 2
      have d3 := hr1.cell 3 _ rfl
      have f3 := hr1.frozen 3
      have d4 := hr1.cell 4 _ rfl
      have f4 := hr1.frozen 4
      have d5 := hr1.cell 5 _ rfl
      have f5 := hr1.frozen 5
      have d6 := hr1.cell 6 _ rfl
      have f6 := hr1.frozen 6
      have d7 := hr1.cell 7 _ rfl
      have f7 := hr1.frozen 7
      have d8 := hr1.cell 8 _ rfl
      have f8 := hr1.frozen 8
      have d9 := hr1.cell 9 _ rfl
      have f9 := hr1.frozen 9
      go_wp2
      refine bodyPost_ret (by simp [results, Try.results89, go_sem, *]; rfl) rfl ?_
      refine ⟨ret_val (by rw [HBS.out]; rfl), ?_⟩
      iterate 10 refine Gr.setCell ?_ (Nat.le_refl w.heap.size) _
      exact hgr

theorem listFrom_before (g : List (List Int)) (z : Int) : ∀ (m b : Nat), g.length ≤ b + m → Ir.listFrom ((List.range' b m).map fun a => decide (a < g.length) && Ref.has (g.getD a []) z) b = Ref.beforeFrom z (g.drop b) b
  | 0, b, h => by rw [List.drop_eq_nil_of_le (by omega)]; rfl
  | m + 1, b, h => by
    rw [List.range'_succ, List.map_cons, Ir.listFrom, listFrom_before g z m (b + 1) (by omega)]
    by_cases hb : b < g.length
    · rw [List.drop_eq_getElem_cons hb, Ref.beforeFrom]
      simp [hb, List.getD]
    · rw [List.drop_eq_nil_of_le (by omega), List.drop_eq_nil_of_le (by omega)]
      simp [hb, Ref.beforeFrom]
theorem list_before (g : List (List Int)) (z : Int) (h : g.length ≤ 10) : Ir.listFrom (Ir.beforeBits g z g.length) 0 = Ref.before g z := by
  unfold Ir.beforeBits Ref.before
  rw [List.range_eq_range', listFrom_before g z 10 0 (by omega)]
  rfl

theorem gval_len {g : List (List Int)} (h : Ir.gval g = 0) : 1 ≤ g.length ∧ g.length ≤ 10 := by
  unfold Ir.gval at h
  split at h
  · cases h
  · omega
theorem noded_one {g : List (List Int)} {z : Int} (h : Ir.gval g = 0) (h0 : 0 ≤ z) (h1 : z < g.length) : Ir.noded g [z] = 0 := by
  unfold Ir.noded
  rw [if_pos h]
  simp [Ir.outside]; omega
theorem ints_new1 (w : World) (z : Int) : IntsAt (w.heap.size + 1) (w.alloc (.cells #[.int .i64 z] 3)) (.slice (some ⟨w.heap.size, 0, none⟩) 1 1) [z] := by
  refine ⟨_, _, rfl, Nat.le_refl _, by simp, fun _ => ⟨_, _, rfl, by omega, fun j y hy => ?_⟩⟩
  have : j = 0 := by have := (List.getElem?_eq_some_iff.1 hy).1; simp at this; omega
  subst this
  simp at hy; subst hy
  exact cell_of_row _ _ _ _ _ _ (heap_alloc_new w _)

set_option maxRecDepth 10000 in
set_option maxHeartbeats 2000000 in
/-- flow.Before on a right graph at one of its nodes. -/
theorem Before_any (v : Value) (g : List (List Int)) (z : Int) (w : World) (hg : TabAt w.heap.size w v g) (hv : Ir.gval g = 0) (h0 : 0 ≤ z) (h1 : z < g.length) :
    Calls Try.prog 72 #[v, .int .i64 z] w fun e w' => ∃ u, e = .returned (.tuple #[u, .int .i64 0]) ∧ IntsAt w'.heap.size w' u (Ref.before g z) ∧ Gr w w' := by
  have hn := (gval_len hv).2
  obtain ⟨W, hW⟩ : ∃ W, w.alloc (.cells #[.int .i64 z] 3) = W := ⟨_, rfl⟩
  have hB0 : Gr w W := by rw [← hW]; exact (Gr.refl w).alloc _
  have hu : IntsAt W.heap.size W (.slice (some ⟨w.heap.size, 0, none⟩) 1 1) [z] := by rw [← hW]; simpa using ints_new1 w z
  have HC1 := Lib.hid (noded_any v _ g [z] W (hg.gr hB0) hu)
  rw [noded_one hv h0 h1] at HC1
  have HC2 : Hid (∀ w1, Gr w w1 → Calls Try.prog 89 #[v, .int .i64 z] w1 fun e w' => e = .returned (nv (Ir.beforeBits g z g.length)) ∧ Gr w1 w') := fun w1 g1 => ibefore_any v g z w1 (hg.gr g1) hn
  have HC3 : Hid (∀ w1, Calls Try.prog 90 #[nv (Ir.beforeBits g z g.length)] w1 fun e w' => ∃ v, e = .returned v ∧ IntsAt w'.heap.size w' v (Ref.before g z) ∧ Gr w1 w') := by
    rw [← list_before g z hn]; exact fun w1 => list_any _ (bits_len _ _ _) w1
  obtain ⟨bits, hbits⟩ : ∃ bits, nv (Ir.beforeBits g z g.length) = bits := ⟨_, rfl⟩
  rw [hbits] at HC2 HC3
  clear hbits hg hv hu
  go_enter Try.func72, Try.ntmps72
  go_wp2_with (first
    | (go_at_call 88; refine HC1.out.mono ?_; rintro e w1 ⟨rfl, g1⟩)
    | (go_at_call 89; refine (HC2.out _ (hB0.trans g1)).mono ?_; rintro e w2 ⟨rfl, g2⟩)
    | (go_at_call 90; refine (HC3.out _).mono ?_; rintro e w3 ⟨vl, rfl, hl, g3⟩))
  go_ret2
  exact ⟨vl, rfl, hl, hB0.trans (g1.trans (g2.trans g3))⟩
end Go.Proofs.Ytiadpjhlomhjeaa
