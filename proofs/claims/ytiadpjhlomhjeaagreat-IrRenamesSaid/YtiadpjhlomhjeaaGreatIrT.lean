/- isShaped. -/
import Derived.Test.YtiadpjhlomhjeaaGreatIrS
namespace Go.Proofs.YtiadpjhlomhjeaaGreat
open Go.RowKit

/-- What the program's isShaped answers. -/
def Ir.isShaped (f : Fn) (x : Ins) : Bool :=
  (Ir.shapeOf f x).2.2 && ((x.args.length : Int) == (Ir.shapeOf f x).1) && ((x.to.length : Int) == (Ir.shapeOf f x).2.1) && (bits .andNot .i64 x.flags (Ir.flagsOf x.op) == 0) && !x.to.any (Ir.outside f.blocks.length)

set_option maxRecDepth 100000 in
set_option maxHeartbeats 4000000 in
theorem isShaped_any (f : Fn) (x : Ins) (vp : Value) (As Aa At Ab : Option Addr) (cs ca ct cb : Nat) (w : World) (hb : 0 ≤ x.imm ∧ x.imm < 4294967296 ∧ f.slots.length ≤ 17592186044416 ∧ x.to.length ≤ 17592186044416) (hvt : IntsAt w.heap.size w (.slice At x.to.length ct) x.to) :
    Calls Tryz.prog 26 #[.agg #[vp, .int .i64 f.ret, .slice As f.slots.length cs, .slice Ab f.blocks.length cb], .agg #[.int .i64 x.op, .int .i64 x.width, .int .i64 x.flags, .slice Aa x.args.length ca, .int .u32 x.imm, .slice At x.to.length ct]] w fun e w' =>
      e = .returned (.bool (Ir.isShaped f x)) ∧ Gr w w' := by
  have HSH : Hid (∀ w1, Gr w w1 → Calls Tryz.prog 53 #[.agg #[vp, .int .i64 f.ret, .slice As f.slots.length cs, .slice Ab f.blocks.length cb], .agg #[.int .i64 x.op, .int .i64 x.width, .int .i64 x.flags, .slice Aa x.args.length ca, .int .u32 x.imm, .slice At x.to.length ct]] w1 fun e w' =>
      e = .returned (.tuple #[.agg #[.int .i64 (Ir.shapeOf f x).1, .int .i64 (Ir.shapeOf f x).2.1], .bool (Ir.shapeOf f x).2.2]) ∧ Gr w1 w') :=
    fun w1 g1 => shapeOf_any f x vp _ As Aa At cs ca ct w1 hb (hvt.gr g1)
  have HFL : Hid (∀ w1, Calls Tryz.prog 54 #[.int .i64 x.op] w1 fun e w' => e = .returned (.int .i64 (Ir.flagsOf x.op)) ∧ w1 = w') := fun w1 => flagsOf_any x.op w1
  have HCC : Hid (∀ w1, Gr w w1 → (∀ W, Gr w1 W → W.cell? ⟨w.heap.size, 3, none⟩ = some (.slice Ab f.blocks.length cb)) → Calls Tryz.prog 48 #[.slice At x.to.length ct, .func (.func 55) #[] #[.pointer (some ⟨w.heap.size, 0, none⟩)]] w1 fun e w' =>
      e = .returned (.bool (x.to.any (Ir.outside f.blocks.length))) ∧ Gr w1 w') := by
    intro w1 g1 hbx
    refine ContainsFunc_any _ _ (enters_of Tryz.func55 (by kernel_rfl) rfl) _ _ _ _ (hvt.gr g1) ?_
    intro z _ W g2
    exact (isShaped1_any z w.heap.size Ab f.blocks.length cb W (hbx W g2)).mono fun _ _ h => ⟨h.1, h.2 ▸ Gr.refl _⟩
  have HS : Hid (Ir.isShaped f x = ((Ir.shapeOf f x).2.2 && ((x.args.length : Int) == (Ir.shapeOf f x).1) && ((x.to.length : Int) == (Ir.shapeOf f x).2.1) && (bits .andNot .i64 x.flags (Ir.flagsOf x.op) == 0) && !x.to.any (Ir.outside f.blocks.length))) := by show _ = _; rfl
  obtain ⟨s, hs⟩ : ∃ s, Ir.shapeOf f x = s := ⟨_, rfl⟩
  obtain ⟨m, hm⟩ : ∃ m, Ir.flagsOf x.op = m := ⟨_, rfl⟩
  rw [hs, hm] at HS
  rw [hs] at HSH
  rw [hm] at HFL
  obtain ⟨s1, s2, ok⟩ := s
  dsimp only at HS HSH
  clear hs hm hvt
  obtain ⟨W, hW⟩ : ∃ W, (w.alloc (.cells #[vp, .int .i64 f.ret, .slice As f.slots.length cs, .slice Ab f.blocks.length cb] 25)).alloc (.cells #[.int .i64 x.op, .int .i64 x.width, .int .i64 x.flags, .slice Aa x.args.length ca, .int .u32 x.imm, .slice At x.to.length ct] 38) = W := ⟨_, rfl⟩
  have hB0 : Gr w W := by rw [← hW]; exact ((Gr.refl w).alloc _).alloc _
  have hWs : W.heap.size = w.heap.size + 2 := by rw [← hW]; simp
  have B0 : Hid (∀ w', Gr W w' → w'.cell? ⟨w.heap.size, 3, none⟩ = some (.slice Ab f.blocks.length cb)) := by
    intro w' g
    refine (g.cell w.heap.size 3 (by omega)).trans ?_
    rw [← hW]
    exact (((Gr.refl _).alloc _).cell w.heap.size 3 (by simp)).trans (cell_of_row _ _ _ _ _ _ (heap_alloc_new w _))
  have B1 : Hid (∀ w' o, Gr W w' → w'.cell? ⟨w.heap.size + 1, o, none⟩ = (#[.int .i64 x.op, .int .i64 x.width, .int .i64 x.flags, .slice Aa x.args.length ca, .int .u32 x.imm, .slice At x.to.length ct] : Array Value)[o]?) := by
    intro w' o g
    refine (g.cell (w.heap.size + 1) o (by omega)).trans ?_
    rw [← hW]
    exact cell_of_row _ _ _ _ _ _ (heap_alloc2_new w _ _)
  have c0 := B0.out W (Gr.refl _)
  have d0 : W.cell? ⟨w.heap.size + 1, 0, none⟩ = some (.int .i64 x.op) := B1.out W 0 (Gr.refl _)
  have d1 : W.cell? ⟨w.heap.size + 1, 1, none⟩ = some (.int .i64 x.width) := B1.out W 1 (Gr.refl _)
  have d2 : W.cell? ⟨w.heap.size + 1, 2, none⟩ = some (.int .i64 x.flags) := B1.out W 2 (Gr.refl _)
  have d3 : W.cell? ⟨w.heap.size + 1, 3, none⟩ = some (.slice Aa x.args.length ca) := B1.out W 3 (Gr.refl _)
  have d4 : W.cell? ⟨w.heap.size + 1, 4, none⟩ = some (.int .u32 x.imm) := B1.out W 4 (Gr.refl _)
  have d5 : W.cell? ⟨w.heap.size + 1, 5, none⟩ = some (.slice At x.to.length ct) := B1.out W 5 (Gr.refl _)
  have e0 : W.cell? ⟨w.heap.size, 0, none⟩ = some vp := by
    rw [← hW]; exact (((Gr.refl _).alloc _).cell w.heap.size 0 (by simp)).trans (cell_of_row _ _ _ _ _ _ (heap_alloc_new w _))
  have e1 : W.cell? ⟨w.heap.size, 1, none⟩ = some (.int .i64 f.ret) := by
    rw [← hW]; exact (((Gr.refl _).alloc _).cell w.heap.size 1 (by simp)).trans (cell_of_row _ _ _ _ _ _ (heap_alloc_new w _))
  have e2 : W.cell? ⟨w.heap.size, 2, none⟩ = some (.slice As f.slots.length cs) := by
    rw [← hW]; exact (((Gr.refl _).alloc _).cell w.heap.size 2 (by simp)).trans (cell_of_row _ _ _ _ _ _ (heap_alloc_new w _))
  obtain ⟨q1, hq1⟩ : ∃ q1, ((x.args.length : Int) == s1) = q1 := ⟨_, rfl⟩
  obtain ⟨q2, hq2⟩ : ∃ q2, ((x.to.length : Int) == s2) = q2 := ⟨_, rfl⟩
  obtain ⟨q3, hq3⟩ : ∃ q3, (bits .andNot .i64 x.flags m == 0) = q3 := ⟨_, rfl⟩
  have hr1 : ((x.args.length : Int) != s1) = !q1 := by rw [bne, hq1]
  have hr2 : ((x.to.length : Int) != s2) = !q2 := by rw [bne, hq2]
  have hr3 : (bits .andNot .i64 x.flags m != 0) = !q3 := by rw [bne, hq3]
  rw [hq1, hq2, hq3] at HS
  clear hq1 hq2 hq3
  cases ok with
  | false =>
    have HS2 : Hid (Ir.isShaped f x = false) := by show _ = _; rw [HS.out]; simp
    go_enter Tryz.func26, Tryz.ntmps26
    go_wp2_with (go_at_call 53; refine (HSH.out _ hB0).mono ?_; rintro e w1 ⟨rfl, g1⟩)
    go_quiet (fail)
    go_wp2
    go_ret
    exact ⟨ret_bool (by rw [HS2.out]), ((hB0.trans g1).alloc _).drewN _⟩
  | true =>
    cases q1 with
    | false =>
      have HS2 : Hid (Ir.isShaped f x = false) := by show _ = _; rw [HS.out]; simp
      go_enter Tryz.func26, Tryz.ntmps26
      go_wp2_with (go_at_call 53; refine (HSH.out _ hB0).mono ?_; rintro e w1 ⟨rfl, g1⟩; have n0 : ∀ o, (w1.alloc o).cell? ⟨w.heap.size + 1, 0, none⟩ = some (.int .i64 x.op) := fun o => B1.out _ 0 (g1.alloc o); have n2 : ∀ o, (w1.alloc o).cell? ⟨w.heap.size + 1, 2, none⟩ = some (.int .i64 x.flags) := fun o => B1.out _ 2 (g1.alloc o); have n3 : ∀ o, (w1.alloc o).cell? ⟨w.heap.size + 1, 3, none⟩ = some (.slice Aa x.args.length ca) := fun o => B1.out _ 3 (g1.alloc o); have n5 : ∀ o, (w1.alloc o).cell? ⟨w.heap.size + 1, 5, none⟩ = some (.slice At x.to.length ct) := fun o => B1.out _ 5 (g1.alloc o))
      go_quiet (first | fail | (go_at_call 54; exact quiet_same (HFL.out _)))
      go_wp2
      go_ret
      exact ⟨ret_bool (by rw [HS2.out]), ((hB0.trans g1).alloc _).drewN _⟩
    | true =>
      cases q2 with
      | false =>
        have HS2 : Hid (Ir.isShaped f x = false) := by show _ = _; rw [HS.out]; simp
        go_enter Tryz.func26, Tryz.ntmps26
        go_wp2_with (go_at_call 53; refine (HSH.out _ hB0).mono ?_; rintro e w1 ⟨rfl, g1⟩; have n0 : ∀ o, (w1.alloc o).cell? ⟨w.heap.size + 1, 0, none⟩ = some (.int .i64 x.op) := fun o => B1.out _ 0 (g1.alloc o); have n2 : ∀ o, (w1.alloc o).cell? ⟨w.heap.size + 1, 2, none⟩ = some (.int .i64 x.flags) := fun o => B1.out _ 2 (g1.alloc o); have n3 : ∀ o, (w1.alloc o).cell? ⟨w.heap.size + 1, 3, none⟩ = some (.slice Aa x.args.length ca) := fun o => B1.out _ 3 (g1.alloc o); have n5 : ∀ o, (w1.alloc o).cell? ⟨w.heap.size + 1, 5, none⟩ = some (.slice At x.to.length ct) := fun o => B1.out _ 5 (g1.alloc o))
        go_quiet (first | fail | (go_at_call 54; exact quiet_same (HFL.out _)))
        go_wp2
        go_ret
        exact ⟨ret_bool (by rw [HS2.out]), ((hB0.trans g1).alloc _).drewN _⟩
      | true =>
        cases q3 with
        | false =>
          have HS2 : Hid (Ir.isShaped f x = false) := by show _ = _; rw [HS.out]; simp
          go_enter Tryz.func26, Tryz.ntmps26
          go_wp2_with (go_at_call 53; refine (HSH.out _ hB0).mono ?_; rintro e w1 ⟨rfl, g1⟩; have n0 : ∀ o, (w1.alloc o).cell? ⟨w.heap.size + 1, 0, none⟩ = some (.int .i64 x.op) := fun o => B1.out _ 0 (g1.alloc o); have n2 : ∀ o, (w1.alloc o).cell? ⟨w.heap.size + 1, 2, none⟩ = some (.int .i64 x.flags) := fun o => B1.out _ 2 (g1.alloc o); have n3 : ∀ o, (w1.alloc o).cell? ⟨w.heap.size + 1, 3, none⟩ = some (.slice Aa x.args.length ca) := fun o => B1.out _ 3 (g1.alloc o); have n5 : ∀ o, (w1.alloc o).cell? ⟨w.heap.size + 1, 5, none⟩ = some (.slice At x.to.length ct) := fun o => B1.out _ 5 (g1.alloc o))
          go_quiet (first | fail | (go_at_call 54; exact quiet_same (HFL.out _)))
          go_wp2
          go_ret
          exact ⟨ret_bool (by rw [HS2.out]), ((hB0.trans g1).alloc _).drewN _⟩
        | true =>
          have HS2 : Hid (Ir.isShaped f x = !x.to.any (Ir.outside f.blocks.length)) := by show _ = _; rw [HS.out]; simp
          obtain ⟨q4, hq4⟩ : ∃ q4, x.to.any (Ir.outside f.blocks.length) = q4 := ⟨_, rfl⟩
          rw [hq4] at HS2 HCC
          clear hq4
          go_enter Tryz.func26, Tryz.ntmps26
          go_wp2_with (go_at_call 53; refine (HSH.out _ hB0).mono ?_; rintro e w1 ⟨rfl, g1⟩; have n0 : ∀ o, (w1.alloc o).cell? ⟨w.heap.size + 1, 0, none⟩ = some (.int .i64 x.op) := fun o => B1.out _ 0 (g1.alloc o); have n2 : ∀ o, (w1.alloc o).cell? ⟨w.heap.size + 1, 2, none⟩ = some (.int .i64 x.flags) := fun o => B1.out _ 2 (g1.alloc o); have n3 : ∀ o, (w1.alloc o).cell? ⟨w.heap.size + 1, 3, none⟩ = some (.slice Aa x.args.length ca) := fun o => B1.out _ 3 (g1.alloc o); have n5 : ∀ o, (w1.alloc o).cell? ⟨w.heap.size + 1, 5, none⟩ = some (.slice At x.to.length ct) := fun o => B1.out _ 5 (g1.alloc o))
          go_quiet (first | fail | (go_at_call 54; exact quiet_same (HFL.out _)))
          go_wp2_with (go_at_call 48; refine (HCC.out _ (((hB0.trans g1).alloc _).drewN _) (fun W' g2 => B0.out W' (((g1.alloc _).drewN _).trans g2))).mono ?_; rintro e w3 ⟨rfl, g3⟩)
          go_ret
          exact ⟨ret_bool (by rw [HS2.out]), (((hB0.trans g1).alloc _).drewN _).trans g3⟩
end Go.Proofs.YtiadpjhlomhjeaaGreat
