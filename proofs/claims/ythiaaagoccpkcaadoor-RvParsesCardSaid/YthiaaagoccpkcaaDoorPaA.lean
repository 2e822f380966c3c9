/- Text and Writes of the program, at any instruction. -/
import Derived.Test.YthiaaagoccpkcaaDoorRvT
import Derived.Deep.QuietTactic
import Derived.BigQuiet
import Derived.Deep.RegionWith
namespace Go.Proofs.YthiaaagoccpkcaaDoor
set_option linter.unusedSimpArgs false
set_option linter.unusedVariables false
open Go.RowKit

/-- What Text returns. -/
def textV (x : RvI) : Value := .tuple #[.string (textR x), .int .i64 (Rv.validE x)]
theorem validE_ne {x : RvI} (h : Rv.valid x = false) : Rv.validE x ≠ 0 := by
  unfold Rv.validE; rw [h]; decide
theorem validE_eq {x : RvI} (h : Rv.valid x = true) : Rv.validE x = 0 := by
  unfold Rv.validE; rw [h]; rfl
set_option maxRecDepth 100000 in
set_option maxHeartbeats 4000000 in
theorem pText_err (x : RvI) (hv : Rv.valid x = false) (w : World) : Calls Tryd.prog 31 #[rvVal x] w fun e w' => e = .returned (.tuple #[.string ⟨#[]⟩, .int .i64 (Rv.validE x)]) ∧ Gr w w' := by
  have he := validE_ne hv
  have HVA : Hid (∀ w1, Calls Tryd.prog 14 #[rvVal x] w1 fun e w' => e = .returned (.int .i64 (Rv.validE x)) ∧ Gr w1 w') := fun w1 => pValidate_any x w1
  generalize Rv.validE x = er at *
  have c1 : (er != 0) = true := by simpa using he
  obtain ⟨op, d, a, b, imm⟩ := x
  unfold rvVal at HVA ⊢
  dsimp only at HVA ⊢
  clear hv he
  go_enter Tryd.func31, Tryd.ntmps31
  go_wp2_with (go_at_call 14; refine (HVA.out _).mono ?_; rintro e w1 ⟨rfl, g1⟩)
  go_ret2
  exact ⟨rfl, ((Gr.refl w).alloc _).trans g1⟩
theorem pText_any (x : RvI) (w : World) (ht : Tabs w) : Calls Tryd.prog 31 #[rvVal x] w fun e w' => e = .returned (textV x) ∧ Gr w w' := by
  unfold textV textR
  cases hv : Rv.valid x with
  | false => rw [if_neg (by decide)]; exact pText_err x hv w
  | true =>
    rw [if_pos rfl, validE_eq hv]
    obtain ⟨n, e, -⟩ := valid_parts x hv
    obtain ⟨op, d, a, b, imm⟩ := x
    dsimp only at e
    subst e
    exact pText_valid n d a b imm hv w ht
/-- What Writes returns. -/
def writesV (x : RvI) : Value := if Rv.valid x then .tuple #[.int .i64 x.d, .bool (decide (0 < x.d)), .int .i64 0] else .tuple #[.int .i64 0, .bool false, .int .i64 (Rv.validE x)]
set_option maxRecDepth 100000 in
set_option maxHeartbeats 4000000 in
theorem pWrites_any (x : RvI) (w : World) : Calls Tryd.prog 33 #[rvVal x] w fun e w' => e = .returned (writesV x) ∧ Gr w w' := by
  have HVA : Hid (∀ w1, Calls Tryd.prog 14 #[rvVal x] w1 fun e w' => e = .returned (.int .i64 (Rv.validE x)) ∧ Gr w1 w') := fun w1 => pValidate_any x w1
  unfold writesV
  cases hv : Rv.valid x with
  | false =>
    rw [if_neg (by decide)]
    have he := validE_ne hv
    generalize Rv.validE x = er at *
    have c1 : (er != 0) = true := by simpa using he
    obtain ⟨op, d, a, b, imm⟩ := x
    unfold rvVal at HVA ⊢
    dsimp only at HVA ⊢
    clear hv he
    go_enter Tryd.func33, Tryd.ntmps33
    go_wp2_with (go_at_call 14; refine (HVA.out _).mono ?_; rintro e w1 ⟨rfl, g1⟩)
    go_ret3
    exact ⟨rfl, ((Gr.refl w).alloc _).trans g1⟩
  | true =>
    rw [if_pos rfl]
    rw [validE_eq hv] at HVA
    obtain ⟨op, d, a, b, imm⟩ := x
    unfold rvVal at HVA ⊢
    dsimp only at HVA ⊢
    obtain ⟨W, hW⟩ : ∃ W, w.alloc (.cells #[.int .i64 op, .int .i64 d, .int .i64 a, .int .i64 b, .int .i64 imm] 23) = W := ⟨_, rfl⟩
    have hB0 : Gr w W := by rw [← hW]; exact (Gr.refl w).alloc _
    have hrw : W.heap[w.heap.size]? = some (.cells #[.int .i64 op, .int .i64 d, .int .i64 a, .int .i64 b, .int .i64 imm] 23 (0, 0)) := by rw [← hW]; exact heap_alloc_new w _
    have KP : Hid (∀ w', Gr W w' → w'.cell? ⟨w.heap.size, 1, none⟩ = some (.int .i64 d)) := fun w' q => cell_of_row _ _ 1 _ _ _ ((q.heap _ (Array.getElem?_eq_some_iff.1 hrw).1).trans hrw)
    have HB0 := Lib.hid hB0
    have k0 := cell_of_row _ _ 0 _ _ _ hrw
    have k1 := cell_of_row _ _ 1 _ _ _ hrw
    have k2 := cell_of_row _ _ 2 _ _ _ hrw
    have k3 := cell_of_row _ _ 3 _ _ _ hrw
    have k4 := cell_of_row _ _ 4 _ _ _ hrw
    simp at k0 k1 k2 k3 k4
    clear hv hrw hB0
    go_enter Tryd.func33, Tryd.ntmps33
    go_wp2_with (go_at_call 14; refine (HVA.out _).mono ?_; rintro e w1 ⟨rfl, g1⟩; have l1 := KP.out _ g1)
    go_quiet (fail)
    go_wp2
    go_ret3
    exact ⟨rfl, (HB0.out.trans g1).drewN _⟩
end Go.Proofs.YthiaaagoccpkcaaDoor
