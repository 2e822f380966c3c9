/- A region in the order of the text over grown worlds; RvEncodes and RvDecodes. -/
import Derived.Test.YthiaaagoccpkcaaDoorRvU
import Derived.Deep.QuietTactic
namespace Go.Proofs.YthiaaagoccpkcaaDoor
open Go.RowKit

/-- A world that has grown from w. -/
structure GrW (w : World) where
  val : World
  gr : Gr w val
instance (w : World) : Nonempty (GrW w) := ⟨⟨w, Gr.refl w⟩⟩
/-- ONE WALK IN THE ORDER OF THE TEXT, for operations that yield the same in every world that has grown from this one. -/
theorem wp_region_quietGr {P : Program} {id : Nat} {Q : Exit → Act → World → Prop} {a : Act} {w : World} {l : List Oper} (hm : P.follows .mixedOrders = true) (hB : Region.lexB .any l.toArray = true)
    (h : wpQuiet P l.toArray (fun w' => ∃ u : GrW w, w' = u.val) (fun a' => ∀ w', (∃ u : GrW w, w' = u.val) → Q .normal a' w') l a) : (Code.region id l.toArray true).wp P Q a w :=
  wp_region_quiet (C := fun w' => ∃ u : GrW w, w' = u.val) hm hB ⟨⟨w.drew, (Gr.refl w).drew⟩, rfl⟩ (by simpa using h)
theorem grW_call {P : Program} {f : FuncId} {args : Array Value} {w : World} {v : Value} (u : GrW w)
    (h : Calls P f args u.val fun e w' => e = .returned v ∧ Gr u.val w') : Calls P f args u.val fun e w'' => e = .returned v ∧ ∃ u' : GrW w, w'' = u'.val :=
  h.mono fun _ w' ⟨he, hm⟩ => ⟨he, ⟨w', u.gr.trans hm⟩, rfl⟩

theorem wordR_in (x : RvI) : 0 ≤ Rv.wordR x ∧ Rv.wordR x < 4294967296 := by
  unfold Rv.wordR
  split
  · next h => exact ⟨(Rv.word_fields x h).1, (Rv.word_fields x h).2.1⟩
  · decide
theorem decode_zero : Rv.decode 0 = none := by kernel_rfl
set_option maxRecDepth 100000 in
set_option maxHeartbeats 8000000 in
theorem rvEncodes_any (x : RvI) (w : World) (ht : Tabs w) : Calls Tryd.prog 3 #[rvVal x] w fun e w' => e = .returned (.bool true) ∧ Gr w w' := by
  have HEP := Lib.hid (fun w1 => pEncode_any x w1)
  have HER := Lib.hid (fun w1 => rEncode_any x w1)
  have HVP := Lib.hid (fun w1 => pValidate_any x w1)
  have HVR := Lib.hid (fun w1 => rValidate_any x w1)
  obtain ⟨b0, b1⟩ := wordR_in x
  have HDE := Lib.hid (fun w1 => pDecode_any (Rv.wordR x) b0 b1 w1)
  have HKN : Hid (∀ w1, Gr w w1 → Calls Tryd.prog 17 #[] w1 fun e w' => e = .returned (.bool true) ∧ Gr w1 w') := fun w1 g => known_any w1 (ht.gr g)
  have hcase : (Rv.validE x = 0 ∧ decV (Rv.decode (Rv.wordR x)) = .tuple #[rvVal x, .bool true]) ∨ (Rv.validE x = 1 ∧ decV (Rv.decode (Rv.wordR x)) = .tuple #[rvVal rv0, .bool false]) := by
    cases h : Rv.valid x with
    | true =>
      left
      have e : Rv.wordR x = Rv.word x := by unfold Rv.wordR; rw [h]; rfl
      exact ⟨by unfold Rv.validE; rw [h]; rfl, by rw [e, Rv.word_decode x h]; rfl⟩
    | false =>
      right
      have e : Rv.wordR x = 0 := by unfold Rv.wordR; rw [h]; rfl
      exact ⟨by unfold Rv.validE; rw [h]; rfl, by rw [e, decode_zero]; rfl⟩
  obtain ⟨wd, hwd⟩ : ∃ z, Rv.wordR x = z := ⟨_, rfl⟩
  rw [hwd] at HEP HER HDE hcase
  clear hwd b0 b1 ht
  obtain ⟨op, d, a, b, imm⟩ := x
  obtain ⟨W, hW⟩ : ∃ W, w.alloc (.cells #[.int .i64 op, .int .i64 d, .int .i64 a, .int .i64 b, .int .i64 imm] 23) = W := ⟨_, rfl⟩
  have hB0 : Gr w W := by rw [← hW]; exact (Gr.refl w).alloc _
  have hrw : W.heap[w.heap.size]? = some (.cells #[.int .i64 op, .int .i64 d, .int .i64 a, .int .i64 b, .int .i64 imm] 23 (0, 0)) := by rw [← hW]; exact heap_alloc_new w _
  have hWs : W.heap.size = w.heap.size + 1 := by rw [← hW]; simp
  have KP : Hid (∀ w', Gr W w' → w'.cell? ⟨w.heap.size, 0, none⟩ = some (.int .i64 op) ∧ w'.cell? ⟨w.heap.size, 1, none⟩ = some (.int .i64 d) ∧ w'.cell? ⟨w.heap.size, 2, none⟩ = some (.int .i64 a) ∧ w'.cell? ⟨w.heap.size, 3, none⟩ = some (.int .i64 b) ∧ w'.cell? ⟨w.heap.size, 4, none⟩ = some (.int .i64 imm)) := fun w' q => by
    have h := (q.heap _ (by omega)).trans hrw
    exact ⟨cell_of_row _ _ 0 _ _ _ h, cell_of_row _ _ 1 _ _ _ h, cell_of_row _ _ 2 _ _ _ h, cell_of_row _ _ 3 _ _ _ h, cell_of_row _ _ 4 _ _ _ h⟩
  obtain ⟨k0, k1, k2, k3, k4⟩ := KP.out W (Gr.refl _)
  have HB0 := Lib.hid hB0
  clear hrw hWs hB0
  rcases hcase with ⟨e1, e2⟩ | ⟨e1, e2⟩
  all_goals
    rw [e1] at HEP HER HVP HVR
    rw [e2] at HDE
    unfold rvVal at HEP HER HVP HVR HDE ⊢
    dsimp only [rv0] at HEP HER HVP HVR HDE ⊢
    clear e1 e2
    go_enter Tryd.func3, Tryd.ntmps3
    go_wp2_with (first
      | (go_at_call 12; refine (HEP.out _).mono ?_; rintro e w1 ⟨rfl, g1⟩; obtain ⟨l0, l1, l2, l3, l4⟩ := KP.out _ g1)
      | (go_at_call 13; refine (HER.out _).mono ?_; rintro e w2 ⟨rfl, g2⟩))
    have HG2 := Lib.hid (g1.trans g2)
    have U0 : ∀ u : GrW w2, u.val.cell? ⟨w.heap.size, 0, none⟩ = some (.int .i64 op) := fun u => (KP.out _ (HG2.out.trans u.gr)).1
    have U1 : ∀ u : GrW w2, u.val.cell? ⟨w.heap.size, 1, none⟩ = some (.int .i64 d) := fun u => (KP.out _ (HG2.out.trans u.gr)).2.1
    have U2 : ∀ u : GrW w2, u.val.cell? ⟨w.heap.size, 2, none⟩ = some (.int .i64 a) := fun u => (KP.out _ (HG2.out.trans u.gr)).2.2.1
    have U3 : ∀ u : GrW w2, u.val.cell? ⟨w.heap.size, 3, none⟩ = some (.int .i64 b) := fun u => (KP.out _ (HG2.out.trans u.gr)).2.2.2.1
    have U4 : ∀ u : GrW w2, u.val.cell? ⟨w.heap.size, 4, none⟩ = some (.int .i64 imm) := fun u => (KP.out _ (HG2.out.trans u.gr)).2.2.2.2
    clear g1 g2 k0 k1 k2 k3 k4 l0 l1 l2 l3 l4
    refine wp_region_quietGr (by kernel_rfl) (by kernel_rfl) ?_
    repeat (go_big_quiet_step ((first
      | (rename_i u; go_at_call 14; exact grW_call u (HVP.out _))
      | (rename_i u; go_at_call 15; exact grW_call u (HVR.out _)))))
    refine wpQuiet_nil ?_
    intro w9 hw9
    obtain ⟨u9, rfl⟩ := hw9
    have HG9 := Lib.hid (HG2.out.trans u9.gr)
    obtain ⟨w3, hw3⟩ : ∃ w3, u9.val = w3 := ⟨_, rfl⟩
    rw [hw3] at HG9 ⊢
    clear U0 U1 U2 U3 U4 hw3
    go_wp2_with (first
      | (go_at_call 16; refine (HDE.out _).mono ?_; rintro e w4 ⟨rfl, g4⟩; obtain ⟨m0, m1, m2, m3, m4⟩ := KP.out _ ((HG9.out.trans g4).alloc (.cells #[.int .i64 op, .int .i64 d, .int .i64 a, .int .i64 b, .int .i64 imm] 23)))
      | (go_at_call 17; refine (HKN.out _ ((HB0.out.trans (HG9.out.trans g4)).alloc _)).mono ?_; rintro e w5 ⟨rfl, g5⟩))
    go_ret
    exact ⟨rfl, (((HB0.out.trans (HG9.out.trans g4)).alloc _)).trans g5⟩
end Go.Proofs.YthiaaagoccpkcaaDoor
