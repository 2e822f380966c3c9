import Derived.Test.YtiadpjhlomhjeaaIrP
namespace Go.Proofs.Ytiadpjhlomhjeaa
open Go.RowKit

def rb (g : List (List Int)) (i : Nat) : Bool := (Ref.reached g (-1)).getD i false
/-- The nodes that are reached, in ascending order. -/
def Ir.reachedL (g : List (List Int)) : List Int := Ir.listFrom ((List.range 10).map (rb g)) 0
theorem isReach_eq {g : List (List Int)} {s : List Bool} (hv : Ir.gval g = 0) (h : Ir.IsReach g (-1) s) : s = (List.range 10).map (rb g) := by
  apply List.ext_getElem?
  intro i
  by_cases hi : i < 10
  · rw [h.get (gval_len hv).1 (gval_ok hv) i hi]; simp [hi, rb]
  · have := h.1
    rw [List.getElem?_eq_none (by omega), List.getElem?_eq_none (by simp; omega)]

set_option maxHeartbeats 1000000 in
theorem Reached_any (v : Value) (g : List (List Int)) (w : World) (hg : TabAt w.heap.size w v g) (hv : Ir.gval g = 0) :
    Calls Try.prog 77 #[v] w fun e w' => ∃ u, e = .returned (.tuple #[u, .int .i64 0]) ∧ IntsAt w'.heap.size w' u (Ir.reachedL g) ∧ Gr w w' := by
  have HC1 := Lib.hid (fval_any v g w hg)
  rw [hv] at HC1
  have HC2 : Hid (∀ w1, Gr w w1 → Calls Try.prog 92 #[v, .int .i64 (-1)] w1 fun e w' => e = .returned (nv ((List.range 10).map (rb g))) ∧ Gr w1 w') :=
    fun w1 g1 => (reach_any v g (-1) w1 (hg.gr g1) hv).mono fun _ _ ⟨s, h1, h2, h3⟩ => ⟨by rw [h1, isReach_eq hv h2], h3⟩
  have HC3 : Hid (∀ w1, Calls Try.prog 90 #[nv ((List.range 10).map (rb g))] w1 fun e w' => ∃ v, e = .returned v ∧ IntsAt w'.heap.size w' v (Ir.reachedL g) ∧ Gr w1 w') :=
    fun w1 => list_any _ (by simp) w1
  obtain ⟨bits, hbits⟩ : ∃ bits, nv ((List.range 10).map (rb g)) = bits := ⟨_, rfl⟩
  rw [hbits] at HC2 HC3
  clear hbits hg hv
  go_enter Try.func77, Try.ntmps77
  go_wp2_with (first
    | (go_at_call 91; refine HC1.out.mono ?_; rintro e w1 ⟨rfl, g1⟩)
    | (go_at_call 92; refine (HC2.out _ g1).mono ?_; rintro e w2 ⟨rfl, g2⟩)
    | (go_at_call 90; refine (HC3.out _).mono ?_; rintro e w3 ⟨vl, rfl, hl, g3⟩))
  go_ret2
  exact ⟨vl, rfl, hl, g1.trans (g2.trans g3)⟩

theorem rnodes1_any (n : Nat) (B hb : Nat) (s : List Bool) (w : World) (hr : ARow B hb w s) (hn : n < 10) (y : Bool) (hy : s[n]? = some y) :
    Calls Try.prog 108 #[.int .i64 (n : Int), .pointer (some ⟨hb, 0, none⟩)] w fun e w' => e = .returned (.bool (!y)) ∧ w = w' := by
  have hc := hr.cell n y hy
  have hk10 : (n : Int) < 10 := by omega
  clear hr hy
  go_enter Try.func108, Try.ntmps108
  go_wp2
  go_ret
  exact ⟨rfl, rfl⟩

set_option maxRecDepth 10000 in
set_option maxHeartbeats 2000000 in
theorem rnodes_any (v u : Value) (g : List (List Int)) (l : List Int) (w : World) (hg : TabAt w.heap.size w v g) (hu : IntsAt w.heap.size w u l) (hv : Ir.gval g = 0) (hl : Hid (∀ z ∈ l, 0 ≤ z ∧ z < (g.length : Int))) :
    Calls Try.prog 105 #[v, u] w fun e w' => e = .returned (.int .i64 (if l.any (fun z => !rb g z.toNat) then 9 else 0)) ∧ Gr w w' := by
  have hn := gval_len hv
  have hnd : Ir.noded g l = 0 := by
    unfold Ir.noded
    rw [if_pos hv, if_neg]
    intro h
    obtain ⟨z, hz, h⟩ := List.any_eq_true.1 h
    have := hl.out z hz
    unfold Ir.outside at h
    simp at h; omega
  have HC1 := Lib.hid (noded_any v u g l w hg hu)
  rw [hnd] at HC1
  have HC2 : Hid (∀ w1, Gr w w1 → Calls Try.prog 92 #[v, .int .i64 (-1)] w1 fun e w' => e = .returned (nv ((List.range 10).map (rb g))) ∧ Gr w1 w') :=
    fun w1 g1 => (reach_any v g (-1) w1 (hg.gr g1) hv).mono fun _ _ ⟨s, h1, h2, h3⟩ => ⟨by rw [h1, isReach_eq hv h2], h3⟩
  have hlen : ((List.range 10).map (rb g)).length = 10 := by simp
  have HY : Hid (∀ n : Nat, n < 10 → ((List.range 10).map (rb g))[n]? = some (rb g n)) := fun n h => by simp [h]
  obtain ⟨s, hs⟩ : ∃ s, (List.range 10).map (rb g) = s := ⟨_, rfl⟩
  rw [hs] at HC2 HY hlen
  have HC3 : Hid (∀ w1 hb, Gr w w1 → ARow hb hb w1 s → hb < w1.heap.size → Calls Try.prog 63 #[u, .func (.func 108) #[] #[.pointer (some ⟨hb, 0, none⟩)]] w1 fun e w' => e = .returned (.bool (l.any fun z => !rb g z.toNat)) ∧ Gr w1 w') :=
    fun w1 hb g1 hr hlt => ContainsFunc_any _ _ (enters_of Try.func108 (by kernel_rfl) rfl) _ _ _ _ (hu.gr g1) (fun z hz W g2 => by
      obtain ⟨q0, q1⟩ := hl.out z hz
      obtain ⟨n, rfl⟩ := Int.eq_ofNat_of_zero_le q0
      have := rnodes1_any n hb hb s W (hr.other (g2.heap hb hlt)) (by omega) (rb g n) (HY.out n (by omega))
      exact this.mono fun _ _ h => ⟨h.1, h.2 ▸ Gr.refl _⟩)
  obtain ⟨q, hq⟩ : ∃ q, (l.any fun z => !rb g z.toNat) = q := ⟨_, rfl⟩
  rw [hq] at HC3 ⊢
  clear hs hq hg hu hv hnd HY
  obtain ⟨a0, a1, a2, a3, a4, a5, a6, a7, a8, a9, rfl⟩ := ten s hlen
  rw [show nv [a0, a1, a2, a3, a4, a5, a6, a7, a8, a9] = .agg #[.bool a0, .bool a1, .bool a2, .bool a3, .bool a4, .bool a5, .bool a6, .bool a7, .bool a8, .bool a9] from rfl] at HC2
  have HR : Hid (∀ w1 : World, ARow w1.heap.size w1.heap.size (w1.alloc (.cells #[.bool a0, .bool a1, .bool a2, .bool a3, .bool a4, .bool a5, .bool a6, .bool a7, .bool a8, .bool a9] 103)) [a0, a1, a2, a3, a4, a5, a6, a7, a8, a9]) :=
    fun w1 => ARow.of (heap_alloc_new w1 _) rfl (Nat.le_refl _)
  go_enter Try.func105, Try.ntmps105
  cases q with
  | true =>
    go_wp2_with (first
      | (go_at_call 88; refine HC1.out.mono ?_; rintro e w1 ⟨rfl, g1⟩)
      | (go_at_call 92; refine (HC2.out _ g1).mono ?_; rintro e w2 ⟨rfl, g2⟩)
      | (go_at_call 63; refine (HC3.out _ w2.heap.size ((g1.trans g2).alloc _) (HR.out w2) (by simp)).mono ?_; rintro e w3 ⟨rfl, g3⟩))
    go_ret
    exact ⟨rfl, ((g1.trans g2).alloc _).trans g3⟩
  | false =>
    go_wp2_with (first
      | (go_at_call 88; refine HC1.out.mono ?_; rintro e w1 ⟨rfl, g1⟩)
      | (go_at_call 92; refine (HC2.out _ g1).mono ?_; rintro e w2 ⟨rfl, g2⟩)
      | (go_at_call 63; refine (HC3.out _ w2.heap.size ((g1.trans g2).alloc _) (HR.out w2) (by simp)).mono ?_; rintro e w3 ⟨rfl, g3⟩))
    go_ret
    exact ⟨rfl, ((g1.trans g2).alloc _).trans g3⟩

set_option maxHeartbeats 1000000 in
theorem idom_any (v : Value) (g : List (List Int)) (a b : Nat) (w : World) (hg : TabAt w.heap.size w v g) (hv : Ir.gval g = 0) (hb : b < g.length) :
    Calls Try.prog 106 #[v, .int .i64 a, .int .i64 b] w fun e w' => e = .returned (.bool (Ref.dominates g a b)) ∧ Gr w w' := by
  have hn := gval_len hv
  have HC2 : Hid (Calls Try.prog 92 #[v, .int .i64 (a : Int)] w fun e w' => ∃ s, e = .returned (nv s) ∧ (∀ W, (Instr.index 103 (nv s) (.int .i64 (b : Int))).run Try.prog W = .ok (.bool ((Ref.reached g a).getD b false)) W) ∧ Gr w w') :=
    (reach_any v g a w hg hv).mono fun _ _ ⟨s, h1, h2, h3⟩ => ⟨s, h1, fun W => index_ten s h2.1 b _ (h2.get hn.1 (gval_ok hv) b (by omega)) W, h3⟩
  have HD : Hid (Ref.dominates g a b = (decide ((a : Int) = b) || !(Ref.reached g a).getD b false)) := by show _ = _; unfold Ref.dominates; simp
  obtain ⟨q, hq⟩ : ∃ q, (Ref.reached g a).getD b false = q := ⟨_, rfl⟩
  rw [hq] at HC2 HD
  unfold nv at HC2
  clear hq hg hv
  by_cases h : (a : Int) = b
  · have hb1 : ((a : Int) == b) = true := by simp [h]
    go_enter Try.func106, Try.ntmps106
    go_wp2
    go_ret
    exact ⟨ret_bool (by rw [HD.out]; simp [h]), Gr.refl _⟩
  · have hb1 : ((a : Int) == b) = false := by simp [h]
    go_enter Try.func106, Try.ntmps106
    go_wp2_with (go_at_call 92; refine HC2.out.mono ?_; rintro e w1 ⟨s, rfl, hix, g1⟩)
    go_ret
    exact ⟨ret_bool (by rw [HD.out]; simp [h]), g1⟩

theorem ints_new2 (w : World) (x y : Int) : IntsAt (w.heap.size + 1) (w.alloc (.cells #[.int .i64 x, .int .i64 y] 3)) (.slice (some ⟨w.heap.size, 0, none⟩) 2 2) [x, y] := by
  refine ⟨_, _, rfl, Nat.le_refl _, by simp, fun _ => ⟨_, _, rfl, by omega, fun j z hz => ?_⟩⟩
  have hc : ∀ i, (w.alloc (.cells #[.int .i64 x, .int .i64 y] 3)).cell? ⟨w.heap.size, i, none⟩ = (#[Value.int .i64 x, Value.int .i64 y] : Array Value)[i]? := fun i => cell_of_row _ _ _ _ _ _ (heap_alloc_new w _)
  rw [hc]
  match j, hz with
  | 0, hz => simp at hz; subst hz; rfl
  | 1, hz => simp at hz; subst hz; rfl
theorem rb_from {g : List (List Int)} (hv : Ir.gval g = 0) (i : Nat) : rb g i = true ↔ Ir.From g (-1) 0 i := by
  rw [← Ir.reached_from (gval_len hv).1 (gval_ok hv) i]
  unfold rb
  constructor
  · exact Ir.getD_true
  · intro h; simp [List.getD, h]
/-- A block that is not reached dominates none that is. -/
theorem dom_unreached {g : List (List Int)} (hv : Ir.gval g = 0) {a b : Nat} (ha : rb g a = false) (hb : rb g b = true) : Ref.dominates g a b = false := by
  have hna : ¬ Ir.From g (-1) 0 a := fun h => by rw [(rb_from hv a).2 h] at ha; cases ha
  have hfb := (rb_from hv b).1 hb
  have h0 : Ir.From g (-1) 0 0 := .here 0 (by omega)
  have h := (Ir.reached_from (but := (a : Int)) (gval_len hv).1 (gval_ok hv) b).2 (Ir.from_avoid hna 0 b hfb h0)
  unfold Ref.dominates
  have hne : (a : Int) ≠ b := fun e => by have : a = b := by omega
                                          subst this; rw [ha] at hb; cases hb
  simp [List.getD, h, hne]

set_option maxRecDepth 10000 in
set_option maxHeartbeats 1000000 in
/-- flow.Dominates on a right graph, the second node reached. -/
theorem Dominates_any (v : Value) (g : List (List Int)) (a b : Nat) (w : World) (hg : TabAt w.heap.size w v g) (hv : Ir.gval g = 0) (ha : a < g.length) (hb : b < g.length) (hr : rb g b = true) :
    Calls Try.prog 93 #[v, .int .i64 a, .int .i64 b] w fun e w' => ∃ x z, e = .returned (.tuple #[.bool x, .int .i64 z]) ∧ (decide (z = 0) && x) = Ref.dominates g a b ∧ Gr w w' := by
  obtain ⟨W, hW⟩ : ∃ W, w.alloc (.cells #[.int .i64 (a : Int), .int .i64 (b : Int)] 3) = W := ⟨_, rfl⟩
  have hB0 : Gr w W := by rw [← hW]; exact (Gr.refl w).alloc _
  have hu : IntsAt W.heap.size W (.slice (some ⟨w.heap.size, 0, none⟩) 2 2) [(a : Int), (b : Int)] := by rw [← hW]; simpa using ints_new2 w a b
  have HC1 := Lib.hid (rnodes_any v _ g [(a : Int), (b : Int)] W (hg.gr hB0) hu hv (fun z hz => by simp at hz; omega))
  have HC2 : Hid (∀ w1, Gr w w1 → Calls Try.prog 106 #[v, .int .i64 a, .int .i64 b] w1 fun e w' => e = .returned (.bool (Ref.dominates g a b)) ∧ Gr w1 w') := fun w1 g1 => idom_any v g a b w1 (hg.gr g1) hv hb
  cases ra : rb g a with
  | true =>
    have e : ([(a : Int), (b : Int)].any fun z => !rb g z.toNat) = false := by simp [ra, hr]
    rw [e] at HC1
    obtain ⟨d, hd⟩ : ∃ d, Ref.dominates g a b = d := ⟨_, rfl⟩
    rw [hd] at HC2 ⊢
    clear e hd hg hv hu ra hr
    go_enter Try.func93, Try.ntmps93
    go_wp2_with (first
      | (go_at_call 105; refine HC1.out.mono ?_; rintro e w1 ⟨rfl, g1⟩)
      | (go_at_call 106; refine (HC2.out _ (hB0.trans g1)).mono ?_; rintro e w2 ⟨rfl, g2⟩))
    go_ret2
    exact ⟨d, 0, rfl, by simp, hB0.trans (g1.trans g2)⟩
  | false =>
    have e : ([(a : Int), (b : Int)].any fun z => !rb g z.toNat) = true := by simp [ra]
    rw [e] at HC1
    have hd := dom_unreached hv ra hr
    have HD := Lib.hid hd
    clear e hg hv hu ra hr hd
    go_enter Try.func93, Try.ntmps93
    go_wp2_with (first
      | (go_at_call 105; refine HC1.out.mono ?_; rintro e w1 ⟨rfl, g1⟩))
    go_ret2
    exact ⟨false, 9, rfl, by rw [HD.out]; simp, hB0.trans g1⟩

theorem mask_any (n : Nat) (w : World) (h0 : 1 ≤ n) (h1 : n ≤ 32) : Calls Try.prog 99 #[.int .i64 (n : Int)] w fun e w' => e = .returned (.int .u32 (2 ^ n - 1)) ∧ w = w' := by
  rcases (by omega : n = 1 ∨ n = 2 ∨ n = 3 ∨ n = 4 ∨ n = 5 ∨ n = 6 ∨ n = 7 ∨ n = 8 ∨ n = 9 ∨ n = 10 ∨ n = 11 ∨ n = 12 ∨ n = 13 ∨ n = 14 ∨ n = 15 ∨ n = 16 ∨ n = 17 ∨ n = 18 ∨ n = 19 ∨ n = 20 ∨ n = 21 ∨ n = 22 ∨ n = 23 ∨ n = 24 ∨ n = 25 ∨ n = 26 ∨ n = 27 ∨ n = 28 ∨ n = 29 ∨ n = 30 ∨ n = 31 ∨ n = 32) with rfl | rfl | rfl | rfl | rfl | rfl | rfl | rfl | rfl | rfl | rfl | rfl | rfl | rfl | rfl | rfl | rfl | rfl | rfl | rfl | rfl | rfl | rfl | rfl | rfl | rfl | rfl | rfl | rfl | rfl | rfl | rfl
  all_goals
    go_enter Try.func99, Try.ntmps99
    go_wp2
    go_ret
    exact ⟨ret_int (by decide), rfl⟩
end Go.Proofs.Ytiadpjhlomhjeaa
