/- The law RvDecodes, walked. -/
import Derived.Test.YthiaaagoccpkcaaDoorRvW
namespace Go.Proofs.YthiaaagoccpkcaaDoor
open Go.RowKit

set_option maxRecDepth 100000 in
set_option maxHeartbeats 8000000 in
theorem rvDecodes_any (x : Int) (h0 : 0 ≤ x) (h1 : x < 4294967296) (w : World) (ht : Tabs w) : Calls Tryd.prog 4 #[.int .u32 x] w fun e w' => e = .returned (.bool true) ∧ Gr w w' := by
  have HDP := Lib.hid (fun w1 => pDecode_any x h0 h1 w1)
  have HDR := Lib.hid (fun w1 => rDecode_any x h0 h1 w1)
  have HKN : Hid (∀ w1, Gr w w1 → Calls Tryd.prog 17 #[] w1 fun e w' => e = .returned (.bool true) ∧ Gr w1 w') := fun w1 g => known_any w1 (ht.gr g)
  have hcase : (∃ y : RvI, decV (Rv.decode x) = .tuple #[rvVal y, .bool true] ∧ Rv.wordR y = x ∧ Rv.validE y = 0) ∨ (decV (Rv.decode x) = .tuple #[rvVal rv0, .bool false]) := by
    cases h : Rv.decode x with
    | some y =>
      left
      obtain ⟨q1, q2⟩ := Rv.decode_word x h0 h1 y h
      exact ⟨y, rfl, by unfold Rv.wordR; rw [q1, q2]; rfl, by unfold Rv.validE; rw [q1]; rfl⟩
    | none => exact Or.inr rfl
  have HEN := Lib.hid (fun (y : RvI) (w1 : World) => pEncode_any y w1)
  clear ht
  rcases hcase with ⟨y, e1, e2, e3⟩ | e1
  · rw [e1] at HDP HDR
    have HE := Lib.hid (HEN.out y)
    rw [e2, e3] at HE
    clear e1 e2 e3 HEN
    obtain ⟨op, d, a, b, imm⟩ := y
    unfold rvVal at HDP HDR HE
    dsimp only at HDP HDR HE
    go_enter Tryd.func4, Tryd.ntmps4
    go_wp2_with (first
      | (go_at_call 16; refine (HDP.out _).mono ?_; rintro e w1 ⟨rfl, g1⟩)
      | (go_at_call 18; refine (HDR.out _).mono ?_; rintro e w2 ⟨rfl, g2⟩; have hb1 : w2.heap[w1.heap.size]? = some (.cells #[.int .i64 op, .int .i64 d, .int .i64 a, .int .i64 b, .int .i64 imm] 23 (0, 0)) := (g2.heap _ (by simp)).trans (heap_alloc_new w1 _); have HBX := Lib.hid hb1; clear hb1; have c0 : ∀ o, (w2.alloc o).cell? ⟨w1.heap.size, 0, none⟩ = some (.int .i64 op) := fun o => cell_of_row _ _ 0 _ _ _ ((((Gr.refl w2).alloc o).heap _ (Array.getElem?_eq_some_iff.1 HBX.out).1).trans HBX.out); have c1 : ∀ o, (w2.alloc o).cell? ⟨w1.heap.size, 1, none⟩ = some (.int .i64 d) := fun o => cell_of_row _ _ 1 _ _ _ ((((Gr.refl w2).alloc o).heap _ (Array.getElem?_eq_some_iff.1 HBX.out).1).trans HBX.out); have c2 : ∀ o, (w2.alloc o).cell? ⟨w1.heap.size, 2, none⟩ = some (.int .i64 a) := fun o => cell_of_row _ _ 2 _ _ _ ((((Gr.refl w2).alloc o).heap _ (Array.getElem?_eq_some_iff.1 HBX.out).1).trans HBX.out); have c3 : ∀ o, (w2.alloc o).cell? ⟨w1.heap.size, 3, none⟩ = some (.int .i64 b) := fun o => cell_of_row _ _ 3 _ _ _ ((((Gr.refl w2).alloc o).heap _ (Array.getElem?_eq_some_iff.1 HBX.out).1).trans HBX.out); have c4 : ∀ o, (w2.alloc o).cell? ⟨w1.heap.size, 4, none⟩ = some (.int .i64 imm) := fun o => cell_of_row _ _ 4 _ _ _ ((((Gr.refl w2).alloc o).heap _ (Array.getElem?_eq_some_iff.1 HBX.out).1).trans HBX.out))
      | (go_at_call 12; refine (HE.out _).mono ?_; rintro e w3 ⟨rfl, g3⟩)
      | (go_at_call 17; refine (HKN.out _ (((g1.alloc _).trans g2).alloc _ |>.trans g3)).mono ?_; rintro e w4 ⟨rfl, g4⟩))
    go_ret
    exact ⟨rfl, (((g1.alloc _).trans g2).alloc _ |>.trans g3).trans g4⟩
  · rw [e1] at HDP HDR
    have HE := Lib.hid (HEN.out rv0)
    clear e1 HEN
    obtain ⟨wd, hwd⟩ : ∃ z, Rv.wordR rv0 = z := ⟨_, rfl⟩
    obtain ⟨ve, hve⟩ : ∃ z, Rv.validE rv0 = z := ⟨_, rfl⟩
    rw [hwd, hve] at HE
    clear hwd hve
    unfold rvVal at HDP HDR HE
    dsimp only [rv0] at HDP HDR HE
    go_enter Tryd.func4, Tryd.ntmps4
    go_wp2_with (first
      | (go_at_call 16; refine (HDP.out _).mono ?_; rintro e w1 ⟨rfl, g1⟩)
      | (go_at_call 18; refine (HDR.out _).mono ?_; rintro e w2 ⟨rfl, g2⟩; have hb1 : w2.heap[w1.heap.size]? = some (.cells #[.int .i64 0, .int .i64 0, .int .i64 0, .int .i64 0, .int .i64 0] 23 (0, 0)) := (g2.heap _ (by simp)).trans (heap_alloc_new w1 _); have HBX := Lib.hid hb1; clear hb1; have c0 : ∀ o, (w2.alloc o).cell? ⟨w1.heap.size, 0, none⟩ = some (.int .i64 0) := fun o => cell_of_row _ _ 0 _ _ _ ((((Gr.refl w2).alloc o).heap _ (Array.getElem?_eq_some_iff.1 HBX.out).1).trans HBX.out); have c1 : ∀ o, (w2.alloc o).cell? ⟨w1.heap.size, 1, none⟩ = some (.int .i64 0) := fun o => cell_of_row _ _ 1 _ _ _ ((((Gr.refl w2).alloc o).heap _ (Array.getElem?_eq_some_iff.1 HBX.out).1).trans HBX.out); have c2 : ∀ o, (w2.alloc o).cell? ⟨w1.heap.size, 2, none⟩ = some (.int .i64 0) := fun o => cell_of_row _ _ 2 _ _ _ ((((Gr.refl w2).alloc o).heap _ (Array.getElem?_eq_some_iff.1 HBX.out).1).trans HBX.out); have c3 : ∀ o, (w2.alloc o).cell? ⟨w1.heap.size, 3, none⟩ = some (.int .i64 0) := fun o => cell_of_row _ _ 3 _ _ _ ((((Gr.refl w2).alloc o).heap _ (Array.getElem?_eq_some_iff.1 HBX.out).1).trans HBX.out); have c4 : ∀ o, (w2.alloc o).cell? ⟨w1.heap.size, 4, none⟩ = some (.int .i64 0) := fun o => cell_of_row _ _ 4 _ _ _ ((((Gr.refl w2).alloc o).heap _ (Array.getElem?_eq_some_iff.1 HBX.out).1).trans HBX.out))
      | (go_at_call 12; refine (HE.out _).mono ?_; rintro e w3 ⟨rfl, g3⟩)
      | (go_at_call 17; refine (HKN.out _ (((g1.alloc _).trans g2).alloc _ |>.trans g3)).mono ?_; rintro e w4 ⟨rfl, g4⟩))
    go_ret
    exact ⟨rfl, (((g1.alloc _).trans g2).alloc _ |>.trans g3).trans g4⟩
end Go.Proofs.YthiaaagoccpkcaaDoor
